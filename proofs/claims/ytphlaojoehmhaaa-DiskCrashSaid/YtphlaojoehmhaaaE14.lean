/- The disk's laws by the machine: DiskWrites, DiskResize. -/
import Derived.Test.YtphlaojoehmhaaaE13
set_option linter.unusedSimpArgs false
set_option linter.unusedVariables false
namespace Go.Proofs.Ytphlaojoehmhaaa
open Go.RowKit

theorem step_len (cs : List Int) (ps : List (Int × Int)) (c v : Int) : (step cs ps 0 c v []).1.length = cs.length := by
  simp only [step]
  rw [if_neg (by decide), if_neg (by decide), if_neg (by decide)]
  split
  · rfl
  split
  · rfl
  · rw [length_app]
theorem step_out (s : List Int × List (Int × Int)) (c v : Int) (h : c < 0 ∨ (s.1.length : Int) ≤ c) : step s.1 s.2 0 c v [] = s := by
  simp only [step]
  rw [if_neg (by decide), if_neg (by decide), if_neg (by decide), if_pos h]
theorem app_append (cs : List Int) (a b : List (Int × Int)) : app cs (a ++ b) = app (app cs a) b := by simp [app]
theorem step_in (s : List Int × List (Int × Int)) (c v : Int) (h : ¬ (c < 0 ∨ (s.1.length : Int) ≤ c)) : app (step s.1 s.2 0 c v []).1 (step s.1 s.2 0 c v []).2 = (app s.1 s.2).set c.toNat v := by
  simp only [step]
  rw [if_neg (by decide), if_neg (by decide), if_neg (by decide), if_neg h]
  split
  · rw [app_append]; rfl
  · show app (app s.1 ((s.2 ++ [(c, v)]).take 1)) ((s.2 ++ [(c, v)]).drop 1) = _
    rw [← app_append, List.take_append_drop, app_append]; rfl
theorem step_view (s : List Int × List (Int × Int)) (c v : Int) (i : Nat) (hi : i < s.1.length) : (app (step s.1 s.2 0 c v []).1 (step s.1 s.2 0 c v []).2).getD i 0 = if (i : Int) = c then v else (app s.1 s.2).getD i 0 := by
  by_cases h : c < 0 ∨ (s.1.length : Int) ≤ c
  · rw [step_out s c v h, if_neg (by omega)]
  · rw [step_in s c v h]
    have hl : (app s.1 s.2).length = s.1.length := length_app _ _
    by_cases hic : (i : Int) = c
    · rw [if_pos hic, show c.toNat = i by omega]
      simp [show i < (app s.1 s.2).length by omega]
    · rw [if_neg hic]
      simp only [List.getD_eq_getElem?_getD]
      rw [List.getElem?_set_ne (by omega)]
theorem write_n (s : List Int × List (Int × Int)) (hg : Good s) (c v : Int) :
    Spec Try.prog 12 (inSt [.agg [.sl (s).1.length (isl (s).1), .sl (s).2.length (wsl (s).2)], .v (.int .i64 c), .v (.int .i64 v)] []) (outSt (.agg [.sl s.1.length (isl (step s.1 s.2 0 c v []).1), .sl (step s.1 s.2 0 c v []).2.length (wsl (step s.1 s.2 0 c v []).2)]) []) := by
  have := write_spec _ _ s.1 s.2 rfl rfl (by have := hg.n; omega) (by have := hg.m; omega) hg.ok c v
  rwa [step_len] at this

theorem writes_law (cells : Int) (hc : -9223372036854775808 ≤ cells ∧ cells ≤ 9223372036854775807) (nl : Nat) (ls : List Int) (hn : ls.length = nl) (h1 : nl ≤ 9223372036854775807) (hr : Rng ls) (cell v : Int) (hcl : -9223372036854775808 ≤ cell ∧ cell ≤ 9223372036854775807) :
    Spec Try.prog 5 (inSt [.v (.int .i64 cells), .sl nl (isl ls), .v (.int .i64 cell), .v (.int .i64 v)] []) (outSt (.v (.bool true)) []) := by
  have hb := built_spec cells hc nl ls hn h1 hr
  have hg := Good.run (around cells 7).toNat (by have := around_lo cells 7 (by omega); have := around_hi cells 7 (by omega); omega) (ls.take 20)
  generalize run (around cells 7).toNat (ls.take 20) = s at *
  have hgn := hg.n
  have hgm := hg.m
  have har := around_spec cell ((s.1.length : Int) + 2) (by omega) (by omega) hcl.1 hcl.2
  have ha0 := around_lo cell ((s.1.length : Int) + 2) (by omega)
  have ha1 := around_hi cell ((s.1.length : Int) + 2) (by omega)
  generalize around cell ((s.1.length : Int) + 2) = k1 at *
  refine Spec.ofN Try.func5 rfl Try.ntmps5 rfl ?_
  refine D_seq fun K1 hK1 => ?_
  refine D_region ?_
  refine DL_c (op_as _ (rfl : _ = AV.v (.bool _))) ?_
  refine DL_nil (hK1 _ ?_)
  clear hK1; try clear K1
  refine D_seq fun K2 hK2 => ?_
  refine D_region ?_
  refine DL_c (op_mv _ (rfl : _ = AV.v (.int _ _))) ?_
  first
    | refine DL_c (op_mv _ (rfl : _ = AV.sl _ _)) ?_
    | refine DL_c (op_mv _ (rfl : _ = AV.ref _ _ _)) ?_
    | refine DL_c (op_mv _ (rfl : _ = AV.v (.slice _ _ _))) ?_
  refine DL_c (op_callH inferInstance (by repeat' (first | exact argsLv_nil | refine argsLv_cons ?_ ?_ | exact Lv.v | exact Lv.sl | exact Lv.fp | exact Lv.nil | refine Lv.agg rfl ?_ | exact lv_nil | refine lv_cons ?_ ?_)) (hb) rfl rfl) ?_
  refine DL_c (op_alloc (9, 0) inferInstance rfl rfl) ?_
  first
    | refine DL_c (op_stB _ _ inferInstance rfl rfl rfl rfl (Nat.le_of_ble_eq_true rfl) rfl) ?_
    | refine DL_c (op_stR _ _ inferInstance rfl rfl rfl rfl rfl (by first | exact Nat.le_of_ble_eq_true rfl | (simp; omega)) rfl) ?_
  refine DL_nil (hK2 _ ?_)
  clear hK2; try clear K2
  refine D_seq fun K3 hK3 => ?_
  refine D_region ?_
  first
    | refine DL_c (op_fldP _ inferInstance rfl rfl rfl) ?_
    | refine DL_c (op_fldF _ inferInstance rfl rfl) ?_
  first
    | refine DL_c (op_ldB _ inferInstance rfl rfl (rfl : _ = some (AV.sl _ _))) ?_
    | refine DL_c (op_ldB _ inferInstance rfl rfl (rfl : _ = some (AV.ref _ _ _))) ?_
    | refine DL_c (op_ldB _ inferInstance rfl rfl (rfl : _ = some (AV.v (.slice _ _ _)))) ?_
    | refine DL_c (op_ldR _ inferInstance rfl rfl (by first | rfl | exact isl_get _ _ (by omega) | exact bsl_get _ _ (by omega) | exact wsl_get0 _ _ (by omega) | exact wsl_get1 _ _ (by omega) | assumption) rfl) ?_
    | refine DL_c (op_ldF _ inferInstance rfl (by first | rfl | exact isl_get _ _ (by omega) | exact bsl_get _ _ (by omega) | exact wsl_get0 _ _ (by omega) | exact wsl_get1 _ _ (by omega) | assumption) rfl) ?_
  first
    | refine DL_c (op_lenS _ inferInstance rfl) ?_
    | refine DL_c (op_lenR _ inferInstance rfl rfl) ?_
    | refine DL_c (op_lenN _ inferInstance rfl) ?_
  refine DL_c (op_as _ (rfl : _ = AV.v (.int _ _))) ?_
  refine DL_nil (hK3 _ ?_)
  clear hK3; try clear K3
  refine D_seq fun K4 hK4 => ?_
  refine D_region ?_
  refine DL_c (op_mv _ (rfl : _ = AV.v (.int _ _))) ?_
  refine DL_c (op_mv _ (rfl : _ = AV.v (.int _ _))) ?_
  first
    | refine DL_c (op_add _ _ rfl rfl (i64w (by omega))) ?_
    | refine DL_c (op_add _ _ rfl rfl rfl) ?_
  refine DL_c (op_callH inferInstance (by repeat' (first | exact argsLv_nil | refine argsLv_cons ?_ ?_ | exact Lv.v | exact Lv.sl | exact Lv.fp | exact Lv.nil | refine Lv.agg rfl ?_ | exact lv_nil | refine lv_cons ?_ ?_)) (har) rfl rfl) ?_
  first
    | refine DL_c (op_sub _ _ rfl rfl (i64w (by omega))) ?_
    | refine DL_c (op_sub _ _ rfl rfl rfl) ?_
  refine DL_c (op_as _ (rfl : _ = AV.v (.int _ _))) ?_
  refine DL_nil (hK4 _ ?_)
  clear hK4; try clear K4
  refine D_seq fun K5 hK5 => ?_
  refine D_region ?_
  refine DL_c (op_mv _ (rfl : _ = AV.v (.int _ _))) ?_
  refine DL_c (op_mv _ (rfl : _ = AV.v (.int _ _))) ?_
  first
    | refine DL_c (op_bsF _ _ inferInstance rfl (by rfl) (by simp <;> rfl) (by decide) rfl) ?_
    | refine DL_c (op_bs (33, 0) _ _ inferInstance rfl (by rfl) (by simp <;> rfl) (by decide) rfl rfl) ?_
  first
    | refine DL_c (op_as _ (rfl : _ = AV.sl _ _)) ?_
    | refine DL_c (op_as _ (rfl : _ = AV.ref _ _ _)) ?_
    | refine DL_c (op_as _ (rfl : _ = AV.v (.slice _ _ _))) ?_
  refine DL_nil (hK5 _ ?_)
  clear hK5; try clear K5
  refine D_seq fun K6 hK6 => ?_
  refine D_seq fun K7 hK7 => ?_
  refine D_region ?_
  refine DL_c (op_as _ (rfl : _ = AV.v (.int _ _))) ?_
  refine DL_nil (hK7 _ ?_)
  clear hK7; try clear K7
  refine D_block ?_
  refine D_loopP (fun p : Nat => p ≤ 2) (fun p => mkSt 93 [(3, .v (.int .i64 v)), (9, .ptr (9, 0) 0), (10, .v (.int .i64 (s.1.length : Int))), (12, .sl 2 (isl [k1 - 1, cell])), (13, .v (.int .i64 (p : Int)))] [((9, 0), .box 26 [.sl (s).1.length (isl (s).1), .sl (s).2.length (wsl (s).2)])]) (fun p => 2 - p) 0 ?_ ?_ ?_
  · omega
  · exact Le.mk [] [] rfl ⟨.v, .ptr, .v, .sl, .v, trivial⟩ rfl rfl rfl trivial ⟨⟨rfl, ⟨_, rfl, .box rfl (lv_cons .sl (lv_cons .sl lv_nil))⟩, rfl⟩, trivial⟩
  · rintro p hp
    refine D_seq fun K8 hK8 => ?_
    refine D_seq fun K9 hK9 => ?_
    refine D_region ?_
    refine DL_c (op_mv _ (rfl : _ = AV.v (.int _ _))) ?_
    refine DL_c (op_lss _ _ rfl rfl rfl) ?_
    refine DL_nil (hK9 _ ?_)
    clear hK9; try clear K9
    refine D_split rfl (fun hc35 => ?_) (fun hc35 => ?_)
    · try simp only [decide_eq_true_eq, decide_eq_false_iff_not, bne_iff_ne, bne_eq_false_iff_eq, beq_iff_eq, beq_eq_false_iff_ne, Bool.not_eq_true', Bool.not_eq_false', ne_eq, Int.not_lt, Int.not_le] at hc35
      have hget := isl_get [k1 - 1, cell] p (by simp; omega)
      generalize [k1 - 1, cell].getD p 0 = c at hget
      have hw := write_n s hg c v
      have hlen := step_len s.1 s.2 c v
      have hval := step_view s c v
      have hout := step_out s c v
      have hg2 : Good (step s.1 s.2 0 c v []) := hg.step 0 c v [] (fun e => by cases e)
      generalize step s.1 s.2 0 c v [] = s2 at *
      have hg2n := hg2.n
      have hg2m := hg2.m
      have hv2 := view_spec s.1.length s2.2.length s2.1 s2.2 hlen rfl (by omega) (by omega) (hlen ▸ hg2.ok)
      have hA : (app s.1 s.2).length = s.1.length := length_app _ _
      have hA2 : (app s2.1 s2.2).length = s.1.length := by rw [length_app, hlen]
      refine D_skip (hK8 _ ?_)
      clear hK8; try clear K8
      refine D_seq fun K10 hK10 => ?_
      refine D_block ?_
      refine D_seq fun K11 hK11 => ?_
      refine D_region ?_
      first
        | refine DL_c (op_mv _ (rfl : _ = AV.sl _ _)) ?_
        | refine DL_c (op_mv _ (rfl : _ = AV.ref _ _ _)) ?_
        | refine DL_c (op_mv _ (rfl : _ = AV.v (.slice _ _ _))) ?_
      refine DL_c (op_mv _ (rfl : _ = AV.v (.int _ _))) ?_
      refine DL_c (op_ixS _ _ inferInstance rfl rfl p rfl (by omega) (by simp) (Nat.mul_one p)) ?_
      refine DL_c (op_ldF _ inferInstance rfl hget rfl) ?_
      refine DL_c (op_as _ (rfl : _ = AV.v (.int _ _))) ?_
      refine DL_nil (hK11 _ ?_)
      clear hK11; try clear K11
      refine D_seq fun K12 hK12 => ?_
      refine D_region ?_
      first
        | refine DL_c (op_ldBA _ inferInstance rfl rfl rfl rfl) ?_
        | refine DL_c (op_ldRA _ inferInstance rfl rfl (by first | rfl | assumption) rfl) ?_
        | refine DL_c (op_ldFA _ inferInstance rfl (by first | rfl | assumption) rfl) ?_
      refine DL_c (op_mv _ (rfl : _ = AV.v (.int _ _))) ?_
      refine DL_c (op_mv _ (rfl : _ = AV.v (.int _ _))) ?_
      refine DL_c (op_callH inferInstance (by repeat' (first | exact argsLv_nil | refine argsLv_cons ?_ ?_ | exact Lv.v | exact Lv.sl | exact Lv.fp | exact Lv.nil | refine Lv.agg rfl ?_ | exact lv_nil | refine lv_cons ?_ ?_)) (hw) rfl rfl) ?_
      refine DL_c (op_alloc (15, 0) inferInstance rfl rfl) ?_
      first
        | refine DL_c (op_stB _ _ inferInstance rfl rfl rfl rfl (Nat.le_of_ble_eq_true rfl) rfl) ?_
        | refine DL_c (op_stR _ _ inferInstance rfl rfl rfl rfl rfl (by first | exact Nat.le_of_ble_eq_true rfl | (simp; omega)) rfl) ?_
      refine DL_nil (hK12 _ ?_)
      clear hK12; try clear K12
      refine D_seq fun K13 hK13 => ?_
      refine D_region ?_
      first
        | refine DL_c (op_ldBA _ inferInstance rfl rfl rfl rfl) ?_
        | refine DL_c (op_ldRA _ inferInstance rfl rfl (by first | rfl | assumption) rfl) ?_
        | refine DL_c (op_ldFA _ inferInstance rfl (by first | rfl | assumption) rfl) ?_
      refine DL_c (op_callH inferInstance (by repeat' (first | exact argsLv_nil | refine argsLv_cons ?_ ?_ | exact Lv.v | exact Lv.sl | exact Lv.fp | exact Lv.nil | refine Lv.agg rfl ?_ | exact lv_nil | refine lv_cons ?_ ?_)) (view_spec _ _ s.1 s.2 rfl rfl (by omega) (by omega) hg.ok) rfl rfl) ?_
      first
        | refine DL_c (op_as _ (rfl : _ = AV.sl _ _)) ?_
        | refine DL_c (op_as _ (rfl : _ = AV.ref _ _ _)) ?_
        | refine DL_c (op_as _ (rfl : _ = AV.v (.slice _ _ _))) ?_
      refine DL_nil (hK13 _ ?_)
      clear hK13; try clear K13
      refine D_seq fun K14 hK14 => ?_
      refine D_region ?_
      first
        | refine DL_c (op_ldBA _ inferInstance rfl rfl rfl rfl) ?_
        | refine DL_c (op_ldRA _ inferInstance rfl rfl (by first | rfl | assumption) rfl) ?_
        | refine DL_c (op_ldFA _ inferInstance rfl (by first | rfl | assumption) rfl) ?_
      refine DL_c (op_callH inferInstance (by repeat' (first | exact argsLv_nil | refine argsLv_cons ?_ ?_ | exact Lv.v | exact Lv.sl | exact Lv.fp | exact Lv.nil | refine Lv.agg rfl ?_ | exact lv_nil | refine lv_cons ?_ ?_)) (hv2) rfl rfl) ?_
      first
        | refine DL_c (op_as _ (rfl : _ = AV.sl _ _)) ?_
        | refine DL_c (op_as _ (rfl : _ = AV.ref _ _ _)) ?_
        | refine DL_c (op_as _ (rfl : _ = AV.v (.slice _ _ _))) ?_
      refine DL_nil (hK14 _ ?_)
      clear hK14; try clear K14
      refine D_seq fun K15 hK15 => ?_
      refine D_seq fun K16 hK16 => ?_
      refine D_region ?_
      first
        | refine DL_c (op_mv _ (rfl : _ = AV.sl _ _)) ?_
        | refine DL_c (op_mv _ (rfl : _ = AV.ref _ _ _)) ?_
        | refine DL_c (op_mv _ (rfl : _ = AV.v (.slice _ _ _))) ?_
      first
        | refine DL_c (op_lenS _ inferInstance rfl) ?_
        | refine DL_c (op_lenR _ inferInstance rfl rfl) ?_
        | refine DL_c (op_lenN _ inferInstance rfl) ?_
      refine DL_c (op_mv _ (rfl : _ = AV.v (.int _ _))) ?_
      refine DL_c (op_neq _ _ rfl rfl (bne_self_eq_false _)) ?_
      refine DL_c (op_mv _ (rfl : _ = AV.v (.bool _))) ?_
      first
        | refine DL_cy rfl rfl (op_mv _ (rfl : _ = AV.sl _ _)) ?_
        | refine DL_cy rfl rfl (op_mv _ (rfl : _ = AV.ref _ _ _)) ?_
        | refine DL_cy rfl rfl (op_mv _ (rfl : _ = AV.v (.slice _ _ _))) ?_
      first
        | refine DL_cy rfl rfl (op_lenS _ inferInstance rfl) ?_
        | refine DL_cy rfl rfl (op_lenR _ inferInstance rfl rfl) ?_
        | refine DL_cy rfl rfl (op_lenN _ inferInstance rfl) ?_
      refine DL_cy rfl rfl (op_mv _ (rfl : _ = AV.v (.int _ _))) ?_
      refine DL_cy rfl rfl (op_neq _ _ rfl rfl (bne_self_eq_false _)) ?_
      refine DL_c (op_pick _ _ _ rfl (rfl : _ = AV.v (.bool _))) ?_
      refine DL_nil (hK16 _ ?_)
      clear hK16; try clear K16
      refine D_cF rfl rfl ?_
      refine D_skip (hK15 _ ?_)
      clear hK15; try clear K15
      refine D_seq fun K17 hK17 => ?_
      refine D_seq fun K18 hK18 => ?_
      rcases (by omega : c < 0 ∨ (0 ≤ c ∧ (s.1.length : Int) ≤ c) ∨ (0 ≤ c ∧ c < (s.1.length : Int))) with h | h | h
      · skip
        have b1 : decide (c < 0) = true := decide_eq_true (by omega)
        have hss := hout (.inl h)
        refine D_region ?_
        refine DL_c (op_mv _ (rfl : _ = AV.v (.int _ _))) ?_
        refine DL_c (op_lss _ _ rfl rfl b1) ?_
        refine DL_c (op_mv _ (rfl : _ = AV.v (.bool _))) ?_
        refine DL_cn rfl rfl (by decide) ?_
        refine DL_cn rfl rfl (by decide) ?_
        refine DL_cn rfl rfl (by decide) ?_
        refine DL_c (op_pick _ _ _ rfl (rfl : _ = AV.v (.bool _))) ?_
        refine DL_c (op_mv _ (rfl : _ = AV.v (.bool _))) ?_
        first
          | refine DL_cy rfl rfl (op_ldBA _ inferInstance rfl rfl rfl rfl) ?_
          | refine DL_cy rfl rfl (op_ldRA _ inferInstance rfl rfl (by first | rfl | assumption) rfl) ?_
          | refine DL_cy rfl rfl (op_ldFA _ inferInstance rfl (by first | rfl | assumption) rfl) ?_
        first
          | refine DL_cy rfl rfl (op_ldBA _ inferInstance rfl rfl rfl rfl) ?_
          | refine DL_cy rfl rfl (op_ldRA _ inferInstance rfl rfl (by first | rfl | assumption) rfl) ?_
          | refine DL_cy rfl rfl (op_ldFA _ inferInstance rfl (by first | rfl | assumption) rfl) ?_
        refine DL_cy rfl rfl (op_callH inferInstance (by repeat' (first | exact argsLv_nil | refine argsLv_cons ?_ ?_ | exact Lv.v | exact Lv.sl | exact Lv.fp | exact Lv.nil | refine Lv.agg rfl ?_ | exact lv_nil | refine lv_cons ?_ ?_)) ((by rw [hss]; exact same_yes _ _ s.1 s.2 rfl rfl (by omega) (by omega) : Spec Try.prog 19 (inSt [.agg [.sl (s).1.length (isl (s).1), .sl (s).2.length (wsl (s).2)], .agg [.sl s.1.length (isl s2.1), .sl s2.2.length (wsl s2.2)]] []) (outSt (.v (.bool true)) []))) rfl rfl) ?_
        refine DL_cy rfl rfl (op_not _ rfl (rfl : _ = false)) ?_
        refine DL_c (op_pick _ _ _ rfl (rfl : _ = AV.v (.bool _))) ?_
        refine DL_nil (hK18 _ ?_)
        clear hK18; try clear K18
        refine D_cF rfl rfl ?_
        refine D_skip (hK17 _ ?_)
        clear hK17; try clear K17
        refine D_seq fun K19 hK19 => ?_
        refine D_region ?_
        refine DL_c (op_as _ (rfl : _ = AV.v (.int _ _))) ?_
        refine DL_nil (hK19 _ ?_)
        clear hK19; try clear K19
        refine D_block ?_
        refine D_loopP (fun i : Nat => i ≤ s.1.length) (fun i => mkSt 93 [(3, .v (.int .i64 v)), (9, .ptr (9, 0) 0), (10, .v (.int .i64 (s.1.length : Int))), (12, .sl 2 (isl [k1 - 1, cell])), (13, .v (.int .i64 (p : Int))), (14, .v (.int .i64 c)), (16, .sl s.1.length (isl (app s.1 s.2))), (17, .sl s.1.length (isl (app s2.1 s2.2))), (18, .v (.int .i64 (i : Int)))] [((9, 0), .box 26 [.sl (s).1.length (isl (s).1), .sl (s).2.length (wsl (s).2)])]) (fun i => s.1.length - i) 0 ?_ ?_ ?_
        · omega
        · exact Le.mk [] [] rfl ⟨.v, .ptr, .v, .sl, .v, .v, .sl, .sl, .v, trivial⟩ rfl rfl rfl trivial ⟨⟨rfl, ⟨_, rfl, .box rfl (lv_cons .sl (lv_cons .sl lv_nil))⟩, rfl⟩, trivial⟩
        · rintro i hi
          refine D_seq fun K20 hK20 => ?_
          refine D_seq fun K21 hK21 => ?_
          refine D_region ?_
          refine DL_c (op_mv _ (rfl : _ = AV.v (.int _ _))) ?_
          refine DL_c (op_mv _ (rfl : _ = AV.v (.int _ _))) ?_
          refine DL_c (op_lss _ _ rfl rfl rfl) ?_
          refine DL_nil (hK21 _ ?_)
          clear hK21; try clear K21
          refine D_split rfl (fun hc75 => ?_) (fun hc75 => ?_)
          · try simp only [decide_eq_true_eq, decide_eq_false_iff_not, bne_iff_ne, bne_eq_false_iff_eq, beq_iff_eq, beq_eq_false_iff_ne, Bool.not_eq_true', Bool.not_eq_false', ne_eq, Int.not_lt, Int.not_le] at hc75
            have hiv := hval i (by omega)
            refine D_skip (hK20 _ ?_)
            clear hK20; try clear K20
            refine D_seq fun K22 hK22 => ?_
            refine D_block ?_
            refine D_seq fun K23 hK23 => ?_
            refine D_region ?_
            first
              | refine DL_c (op_mv _ (rfl : _ = AV.sl _ _)) ?_
              | refine DL_c (op_mv _ (rfl : _ = AV.ref _ _ _)) ?_
              | refine DL_c (op_mv _ (rfl : _ = AV.v (.slice _ _ _))) ?_
            refine DL_c (op_mv _ (rfl : _ = AV.v (.int _ _))) ?_
            first
              | refine DL_c (op_ixS _ _ inferInstance rfl rfl _ rfl (by omega) (by first | assumption | decide | (simp [isl]; omega)) (by first | exact Nat.mul_one _ | rfl)) ?_
              | refine DL_c (op_ixS _ _ inferInstance rfl rfl 0 rfl (by omega) (by first | assumption | decide | (simp [isl]; omega)) (by first | exact Nat.mul_one _ | rfl)) ?_
              | refine DL_c (op_ixS _ _ inferInstance rfl rfl 1 rfl (by omega) (by first | assumption | decide | (simp [isl]; omega)) (by first | exact Nat.mul_one _ | rfl)) ?_
              | refine DL_c (op_ixS _ _ inferInstance rfl rfl (Int.toNat _) (Int.toNat_of_nonneg (by omega)).symm (by omega) (by first | assumption | decide | (simp [isl]; omega)) (by first | exact Nat.mul_one _ | rfl)) ?_
              | refine DL_c (op_ixR _ _ inferInstance rfl rfl rfl _ rfl (by omega) (by first | exact Nat.mul_one _ | rfl)) ?_
              | refine DL_c (op_ixR _ _ inferInstance rfl rfl rfl 0 rfl (by omega) (by first | exact Nat.mul_one _ | rfl)) ?_
              | refine DL_c (op_ixR _ _ inferInstance rfl rfl rfl 1 rfl (by omega) (by first | exact Nat.mul_one _ | rfl)) ?_
              | refine DL_c (op_ixR _ _ inferInstance rfl rfl rfl (Int.toNat _) (Int.toNat_of_nonneg (by omega)).symm (by omega) (by first | exact Nat.mul_one _ | rfl)) ?_
            refine DL_c (op_ldF _ inferInstance rfl (by exact isl_get _ _ (by omega)) rfl) ?_
            refine DL_c (op_as _ (rfl : _ = AV.v (.int _ _))) ?_
            refine DL_nil (hK23 _ ?_)
            clear hK23; try clear K23
            refine D_seq fun K24 hK24 => ?_
            refine D_seq fun K25 hK25 => ?_
            refine D_region ?_
            refine DL_c (op_mv _ (rfl : _ = AV.v (.int _ _))) ?_
            refine DL_c (op_mv _ (rfl : _ = AV.v (.int _ _))) ?_
            refine DL_c (op_eql _ _ rfl rfl rfl) ?_
            refine DL_nil (hK25 _ ?_)
            clear hK25; try clear K25
            refine D_split rfl (fun hc84 => ?_) (fun hc84 => ?_)
            · try simp only [decide_eq_true_eq, decide_eq_false_iff_not, bne_iff_ne, bne_eq_false_iff_eq, beq_iff_eq, beq_eq_false_iff_ne, Bool.not_eq_true', Bool.not_eq_false', ne_eq, Int.not_lt, Int.not_le] at hc84
              rw [if_pos hc84] at hiv
              refine D_region ?_
              refine DL_c (op_mv _ (rfl : _ = AV.v (.int _ _))) ?_
              refine DL_c (op_as _ (rfl : _ = AV.v (.int _ _))) ?_
              refine DL_nil (hK24 _ ?_)
              clear hK24; try clear K24
              refine D_seq fun K26 hK26 => ?_
              refine D_region ?_
              first
                | refine DL_c (op_mv _ (rfl : _ = AV.sl _ _)) ?_
                | refine DL_c (op_mv _ (rfl : _ = AV.ref _ _ _)) ?_
                | refine DL_c (op_mv _ (rfl : _ = AV.v (.slice _ _ _))) ?_
              refine DL_c (op_mv _ (rfl : _ = AV.v (.int _ _))) ?_
              first
                | refine DL_c (op_ixS _ _ inferInstance rfl rfl _ rfl (by omega) (by first | assumption | decide | (simp [isl]; omega)) (by first | exact Nat.mul_one _ | rfl)) ?_
                | refine DL_c (op_ixS _ _ inferInstance rfl rfl 0 rfl (by omega) (by first | assumption | decide | (simp [isl]; omega)) (by first | exact Nat.mul_one _ | rfl)) ?_
                | refine DL_c (op_ixS _ _ inferInstance rfl rfl 1 rfl (by omega) (by first | assumption | decide | (simp [isl]; omega)) (by first | exact Nat.mul_one _ | rfl)) ?_
                | refine DL_c (op_ixS _ _ inferInstance rfl rfl (Int.toNat _) (Int.toNat_of_nonneg (by omega)).symm (by omega) (by first | assumption | decide | (simp [isl]; omega)) (by first | exact Nat.mul_one _ | rfl)) ?_
                | refine DL_c (op_ixR _ _ inferInstance rfl rfl rfl _ rfl (by omega) (by first | exact Nat.mul_one _ | rfl)) ?_
                | refine DL_c (op_ixR _ _ inferInstance rfl rfl rfl 0 rfl (by omega) (by first | exact Nat.mul_one _ | rfl)) ?_
                | refine DL_c (op_ixR _ _ inferInstance rfl rfl rfl 1 rfl (by omega) (by first | exact Nat.mul_one _ | rfl)) ?_
                | refine DL_c (op_ixR _ _ inferInstance rfl rfl rfl (Int.toNat _) (Int.toNat_of_nonneg (by omega)).symm (by omega) (by first | exact Nat.mul_one _ | rfl)) ?_
              refine DL_c (op_ldF _ inferInstance rfl (by exact isl_get _ _ (by omega)) rfl) ?_
              refine DL_c (op_mv _ (rfl : _ = AV.v (.int _ _))) ?_
              refine DL_c (op_neq (r := false) _ _ rfl rfl (by rw [hiv, bne_self_eq_false])) ?_
              refine DL_nil (hK26 _ ?_)
              clear hK26; try clear K26
              refine D_cF rfl rfl ?_
              refine D_skip (hK22 _ ?_)
              clear hK22; try clear K22
              refine D_region ?_
              refine DL_c (op_mv _ (rfl : _ = AV.v (.int _ _))) ?_
              first
                | refine DL_c (op_add _ _ rfl rfl (i64w (by omega))) ?_
                | refine DL_c (op_add _ _ rfl rfl rfl) ?_
              refine DL_c (op_as _ (rfl : _ = AV.v (.int _ _))) ?_
              refine DL_nil ?_
              exact ⟨i + 1, by omega, Le.mk [] [] rfl ⟨.v, .ptr, .v, .sl, .v, .v, .sl, .sl, lvI (by omega), trivial⟩ rfl rfl rfl trivial ⟨⟨rfl, ⟨_, rfl, .box rfl (lv_cons .sl (lv_cons .sl lv_nil))⟩, rfl⟩, trivial⟩, by omega⟩
            · try simp only [decide_eq_true_eq, decide_eq_false_iff_not, bne_iff_ne, bne_eq_false_iff_eq, beq_iff_eq, beq_eq_false_iff_ne, Bool.not_eq_true', Bool.not_eq_false', ne_eq, Int.not_lt, Int.not_le] at hc84
              rw [if_neg hc84] at hiv
              refine D_skip (hK24 _ ?_)
              clear hK24; try clear K24
              refine D_seq fun K27 hK27 => ?_
              refine D_region ?_
              first
                | refine DL_c (op_mv _ (rfl : _ = AV.sl _ _)) ?_
                | refine DL_c (op_mv _ (rfl : _ = AV.ref _ _ _)) ?_
                | refine DL_c (op_mv _ (rfl : _ = AV.v (.slice _ _ _))) ?_
              refine DL_c (op_mv _ (rfl : _ = AV.v (.int _ _))) ?_
              first
                | refine DL_c (op_ixS _ _ inferInstance rfl rfl _ rfl (by omega) (by first | assumption | decide | (simp [isl]; omega)) (by first | exact Nat.mul_one _ | rfl)) ?_
                | refine DL_c (op_ixS _ _ inferInstance rfl rfl 0 rfl (by omega) (by first | assumption | decide | (simp [isl]; omega)) (by first | exact Nat.mul_one _ | rfl)) ?_
                | refine DL_c (op_ixS _ _ inferInstance rfl rfl 1 rfl (by omega) (by first | assumption | decide | (simp [isl]; omega)) (by first | exact Nat.mul_one _ | rfl)) ?_
                | refine DL_c (op_ixS _ _ inferInstance rfl rfl (Int.toNat _) (Int.toNat_of_nonneg (by omega)).symm (by omega) (by first | assumption | decide | (simp [isl]; omega)) (by first | exact Nat.mul_one _ | rfl)) ?_
                | refine DL_c (op_ixR _ _ inferInstance rfl rfl rfl _ rfl (by omega) (by first | exact Nat.mul_one _ | rfl)) ?_
                | refine DL_c (op_ixR _ _ inferInstance rfl rfl rfl 0 rfl (by omega) (by first | exact Nat.mul_one _ | rfl)) ?_
                | refine DL_c (op_ixR _ _ inferInstance rfl rfl rfl 1 rfl (by omega) (by first | exact Nat.mul_one _ | rfl)) ?_
                | refine DL_c (op_ixR _ _ inferInstance rfl rfl rfl (Int.toNat _) (Int.toNat_of_nonneg (by omega)).symm (by omega) (by first | exact Nat.mul_one _ | rfl)) ?_
              refine DL_c (op_ldF _ inferInstance rfl (by exact isl_get _ _ (by omega)) rfl) ?_
              refine DL_c (op_mv _ (rfl : _ = AV.v (.int _ _))) ?_
              refine DL_c (op_neq (r := false) _ _ rfl rfl (by rw [hiv, bne_self_eq_false])) ?_
              refine DL_nil (hK27 _ ?_)
              clear hK27; try clear K27
              refine D_cF rfl rfl ?_
              refine D_skip (hK22 _ ?_)
              clear hK22; try clear K22
              refine D_region ?_
              refine DL_c (op_mv _ (rfl : _ = AV.v (.int _ _))) ?_
              first
                | refine DL_c (op_add _ _ rfl rfl (i64w (by omega))) ?_
                | refine DL_c (op_add _ _ rfl rfl rfl) ?_
              refine DL_c (op_as _ (rfl : _ = AV.v (.int _ _))) ?_
              refine DL_nil ?_
              exact ⟨i + 1, by omega, Le.mk [] [] rfl ⟨.v, .ptr, .v, .sl, .v, .v, .sl, .sl, lvI (by omega), trivial⟩ rfl rfl rfl trivial ⟨⟨rfl, ⟨_, rfl, .box rfl (lv_cons .sl (lv_cons .sl lv_nil))⟩, rfl⟩, trivial⟩, by omega⟩
          · try simp only [decide_eq_true_eq, decide_eq_false_iff_not, bne_iff_ne, bne_eq_false_iff_eq, beq_iff_eq, beq_eq_false_iff_ne, Bool.not_eq_true', Bool.not_eq_false', ne_eq, Int.not_lt, Int.not_le] at hc75
            refine D_exit ?_
            refine id (hK10 _ ?_)
            clear hK10; try clear K10
            refine D_region ?_
            refine DL_c (op_mv _ (rfl : _ = AV.v (.int _ _))) ?_
            first
              | refine DL_c (op_add _ _ rfl rfl (i64w (by omega))) ?_
              | refine DL_c (op_add _ _ rfl rfl rfl) ?_
            refine DL_c (op_as _ (rfl : _ = AV.v (.int _ _))) ?_
            refine DL_nil ?_
            exact ⟨p + 1, by omega, Le.mk [] [] rfl ⟨.v, .ptr, .v, .sl, lvI (by omega), trivial⟩ rfl rfl rfl trivial ⟨⟨rfl, ⟨_, rfl, .box rfl (lv_cons .sl (lv_cons .sl lv_nil))⟩, rfl⟩, trivial⟩, by omega⟩
      · skip
        have b1 : decide (c < 0) = false := decide_eq_false (by omega)
        have b2 : decide ((s.1.length : Int) ≤ c) = true := decide_eq_true (by omega)
        have hss := hout (.inr (by omega))
        refine D_region ?_
        refine DL_c (op_mv _ (rfl : _ = AV.v (.int _ _))) ?_
        refine DL_c (op_lss _ _ rfl rfl b1) ?_
        refine DL_c (op_mv _ (rfl : _ = AV.v (.bool _))) ?_
        refine DL_cy rfl rfl (op_mv _ (rfl : _ = AV.v (.int _ _))) ?_
        refine DL_cy rfl rfl (op_mv _ (rfl : _ = AV.v (.int _ _))) ?_
        refine DL_cy rfl rfl (op_geq _ _ rfl rfl b2) ?_
        refine DL_c (op_pick _ _ _ rfl (rfl : _ = AV.v (.bool _))) ?_
        refine DL_c (op_mv _ (rfl : _ = AV.v (.bool _))) ?_
        first
          | refine DL_cy rfl rfl (op_ldBA _ inferInstance rfl rfl rfl rfl) ?_
          | refine DL_cy rfl rfl (op_ldRA _ inferInstance rfl rfl (by first | rfl | assumption) rfl) ?_
          | refine DL_cy rfl rfl (op_ldFA _ inferInstance rfl (by first | rfl | assumption) rfl) ?_
        first
          | refine DL_cy rfl rfl (op_ldBA _ inferInstance rfl rfl rfl rfl) ?_
          | refine DL_cy rfl rfl (op_ldRA _ inferInstance rfl rfl (by first | rfl | assumption) rfl) ?_
          | refine DL_cy rfl rfl (op_ldFA _ inferInstance rfl (by first | rfl | assumption) rfl) ?_
        refine DL_cy rfl rfl (op_callH inferInstance (by repeat' (first | exact argsLv_nil | refine argsLv_cons ?_ ?_ | exact Lv.v | exact Lv.sl | exact Lv.fp | exact Lv.nil | refine Lv.agg rfl ?_ | exact lv_nil | refine lv_cons ?_ ?_)) ((by rw [hss]; exact same_yes _ _ s.1 s.2 rfl rfl (by omega) (by omega) : Spec Try.prog 19 (inSt [.agg [.sl (s).1.length (isl (s).1), .sl (s).2.length (wsl (s).2)], .agg [.sl s.1.length (isl s2.1), .sl s2.2.length (wsl s2.2)]] []) (outSt (.v (.bool true)) []))) rfl rfl) ?_
        refine DL_cy rfl rfl (op_not _ rfl (rfl : _ = false)) ?_
        refine DL_c (op_pick _ _ _ rfl (rfl : _ = AV.v (.bool _))) ?_
        refine DL_nil (hK18 _ ?_)
        clear hK18; try clear K18
        refine D_cF rfl rfl ?_
        refine D_skip (hK17 _ ?_)
        clear hK17; try clear K17
        refine D_seq fun K28 hK28 => ?_
        refine D_region ?_
        refine DL_c (op_as _ (rfl : _ = AV.v (.int _ _))) ?_
        refine DL_nil (hK28 _ ?_)
        clear hK28; try clear K28
        refine D_block ?_
        refine D_loopP (fun i : Nat => i ≤ s.1.length) (fun i => mkSt 93 [(3, .v (.int .i64 v)), (9, .ptr (9, 0) 0), (10, .v (.int .i64 (s.1.length : Int))), (12, .sl 2 (isl [k1 - 1, cell])), (13, .v (.int .i64 (p : Int))), (14, .v (.int .i64 c)), (16, .sl s.1.length (isl (app s.1 s.2))), (17, .sl s.1.length (isl (app s2.1 s2.2))), (18, .v (.int .i64 (i : Int)))] [((9, 0), .box 26 [.sl (s).1.length (isl (s).1), .sl (s).2.length (wsl (s).2)])]) (fun i => s.1.length - i) 0 ?_ ?_ ?_
        · omega
        · exact Le.mk [] [] rfl ⟨.v, .ptr, .v, .sl, .v, .v, .sl, .sl, .v, trivial⟩ rfl rfl rfl trivial ⟨⟨rfl, ⟨_, rfl, .box rfl (lv_cons .sl (lv_cons .sl lv_nil))⟩, rfl⟩, trivial⟩
        · rintro i hi
          refine D_seq fun K29 hK29 => ?_
          refine D_seq fun K30 hK30 => ?_
          refine D_region ?_
          refine DL_c (op_mv _ (rfl : _ = AV.v (.int _ _))) ?_
          refine DL_c (op_mv _ (rfl : _ = AV.v (.int _ _))) ?_
          refine DL_c (op_lss _ _ rfl rfl rfl) ?_
          refine DL_nil (hK30 _ ?_)
          clear hK30; try clear K30
          refine D_split rfl (fun hc75 => ?_) (fun hc75 => ?_)
          · try simp only [decide_eq_true_eq, decide_eq_false_iff_not, bne_iff_ne, bne_eq_false_iff_eq, beq_iff_eq, beq_eq_false_iff_ne, Bool.not_eq_true', Bool.not_eq_false', ne_eq, Int.not_lt, Int.not_le] at hc75
            have hiv := hval i (by omega)
            refine D_skip (hK29 _ ?_)
            clear hK29; try clear K29
            refine D_seq fun K31 hK31 => ?_
            refine D_block ?_
            refine D_seq fun K32 hK32 => ?_
            refine D_region ?_
            first
              | refine DL_c (op_mv _ (rfl : _ = AV.sl _ _)) ?_
              | refine DL_c (op_mv _ (rfl : _ = AV.ref _ _ _)) ?_
              | refine DL_c (op_mv _ (rfl : _ = AV.v (.slice _ _ _))) ?_
            refine DL_c (op_mv _ (rfl : _ = AV.v (.int _ _))) ?_
            first
              | refine DL_c (op_ixS _ _ inferInstance rfl rfl _ rfl (by omega) (by first | assumption | decide | (simp [isl]; omega)) (by first | exact Nat.mul_one _ | rfl)) ?_
              | refine DL_c (op_ixS _ _ inferInstance rfl rfl 0 rfl (by omega) (by first | assumption | decide | (simp [isl]; omega)) (by first | exact Nat.mul_one _ | rfl)) ?_
              | refine DL_c (op_ixS _ _ inferInstance rfl rfl 1 rfl (by omega) (by first | assumption | decide | (simp [isl]; omega)) (by first | exact Nat.mul_one _ | rfl)) ?_
              | refine DL_c (op_ixS _ _ inferInstance rfl rfl (Int.toNat _) (Int.toNat_of_nonneg (by omega)).symm (by omega) (by first | assumption | decide | (simp [isl]; omega)) (by first | exact Nat.mul_one _ | rfl)) ?_
              | refine DL_c (op_ixR _ _ inferInstance rfl rfl rfl _ rfl (by omega) (by first | exact Nat.mul_one _ | rfl)) ?_
              | refine DL_c (op_ixR _ _ inferInstance rfl rfl rfl 0 rfl (by omega) (by first | exact Nat.mul_one _ | rfl)) ?_
              | refine DL_c (op_ixR _ _ inferInstance rfl rfl rfl 1 rfl (by omega) (by first | exact Nat.mul_one _ | rfl)) ?_
              | refine DL_c (op_ixR _ _ inferInstance rfl rfl rfl (Int.toNat _) (Int.toNat_of_nonneg (by omega)).symm (by omega) (by first | exact Nat.mul_one _ | rfl)) ?_
            refine DL_c (op_ldF _ inferInstance rfl (by exact isl_get _ _ (by omega)) rfl) ?_
            refine DL_c (op_as _ (rfl : _ = AV.v (.int _ _))) ?_
            refine DL_nil (hK32 _ ?_)
            clear hK32; try clear K32
            refine D_seq fun K33 hK33 => ?_
            refine D_seq fun K34 hK34 => ?_
            refine D_region ?_
            refine DL_c (op_mv _ (rfl : _ = AV.v (.int _ _))) ?_
            refine DL_c (op_mv _ (rfl : _ = AV.v (.int _ _))) ?_
            refine DL_c (op_eql _ _ rfl rfl rfl) ?_
            refine DL_nil (hK34 _ ?_)
            clear hK34; try clear K34
            refine D_split rfl (fun hc84 => ?_) (fun hc84 => ?_)
            · try simp only [decide_eq_true_eq, decide_eq_false_iff_not, bne_iff_ne, bne_eq_false_iff_eq, beq_iff_eq, beq_eq_false_iff_ne, Bool.not_eq_true', Bool.not_eq_false', ne_eq, Int.not_lt, Int.not_le] at hc84
              rw [if_pos hc84] at hiv
              refine D_region ?_
              refine DL_c (op_mv _ (rfl : _ = AV.v (.int _ _))) ?_
              refine DL_c (op_as _ (rfl : _ = AV.v (.int _ _))) ?_
              refine DL_nil (hK33 _ ?_)
              clear hK33; try clear K33
              refine D_seq fun K35 hK35 => ?_
              refine D_region ?_
              first
                | refine DL_c (op_mv _ (rfl : _ = AV.sl _ _)) ?_
                | refine DL_c (op_mv _ (rfl : _ = AV.ref _ _ _)) ?_
                | refine DL_c (op_mv _ (rfl : _ = AV.v (.slice _ _ _))) ?_
              refine DL_c (op_mv _ (rfl : _ = AV.v (.int _ _))) ?_
              first
                | refine DL_c (op_ixS _ _ inferInstance rfl rfl _ rfl (by omega) (by first | assumption | decide | (simp [isl]; omega)) (by first | exact Nat.mul_one _ | rfl)) ?_
                | refine DL_c (op_ixS _ _ inferInstance rfl rfl 0 rfl (by omega) (by first | assumption | decide | (simp [isl]; omega)) (by first | exact Nat.mul_one _ | rfl)) ?_
                | refine DL_c (op_ixS _ _ inferInstance rfl rfl 1 rfl (by omega) (by first | assumption | decide | (simp [isl]; omega)) (by first | exact Nat.mul_one _ | rfl)) ?_
                | refine DL_c (op_ixS _ _ inferInstance rfl rfl (Int.toNat _) (Int.toNat_of_nonneg (by omega)).symm (by omega) (by first | assumption | decide | (simp [isl]; omega)) (by first | exact Nat.mul_one _ | rfl)) ?_
                | refine DL_c (op_ixR _ _ inferInstance rfl rfl rfl _ rfl (by omega) (by first | exact Nat.mul_one _ | rfl)) ?_
                | refine DL_c (op_ixR _ _ inferInstance rfl rfl rfl 0 rfl (by omega) (by first | exact Nat.mul_one _ | rfl)) ?_
                | refine DL_c (op_ixR _ _ inferInstance rfl rfl rfl 1 rfl (by omega) (by first | exact Nat.mul_one _ | rfl)) ?_
                | refine DL_c (op_ixR _ _ inferInstance rfl rfl rfl (Int.toNat _) (Int.toNat_of_nonneg (by omega)).symm (by omega) (by first | exact Nat.mul_one _ | rfl)) ?_
              refine DL_c (op_ldF _ inferInstance rfl (by exact isl_get _ _ (by omega)) rfl) ?_
              refine DL_c (op_mv _ (rfl : _ = AV.v (.int _ _))) ?_
              refine DL_c (op_neq (r := false) _ _ rfl rfl (by rw [hiv, bne_self_eq_false])) ?_
              refine DL_nil (hK35 _ ?_)
              clear hK35; try clear K35
              refine D_cF rfl rfl ?_
              refine D_skip (hK31 _ ?_)
              clear hK31; try clear K31
              refine D_region ?_
              refine DL_c (op_mv _ (rfl : _ = AV.v (.int _ _))) ?_
              first
                | refine DL_c (op_add _ _ rfl rfl (i64w (by omega))) ?_
                | refine DL_c (op_add _ _ rfl rfl rfl) ?_
              refine DL_c (op_as _ (rfl : _ = AV.v (.int _ _))) ?_
              refine DL_nil ?_
              exact ⟨i + 1, by omega, Le.mk [] [] rfl ⟨.v, .ptr, .v, .sl, .v, .v, .sl, .sl, lvI (by omega), trivial⟩ rfl rfl rfl trivial ⟨⟨rfl, ⟨_, rfl, .box rfl (lv_cons .sl (lv_cons .sl lv_nil))⟩, rfl⟩, trivial⟩, by omega⟩
            · try simp only [decide_eq_true_eq, decide_eq_false_iff_not, bne_iff_ne, bne_eq_false_iff_eq, beq_iff_eq, beq_eq_false_iff_ne, Bool.not_eq_true', Bool.not_eq_false', ne_eq, Int.not_lt, Int.not_le] at hc84
              rw [if_neg hc84] at hiv
              refine D_skip (hK33 _ ?_)
              clear hK33; try clear K33
              refine D_seq fun K36 hK36 => ?_
              refine D_region ?_
              first
                | refine DL_c (op_mv _ (rfl : _ = AV.sl _ _)) ?_
                | refine DL_c (op_mv _ (rfl : _ = AV.ref _ _ _)) ?_
                | refine DL_c (op_mv _ (rfl : _ = AV.v (.slice _ _ _))) ?_
              refine DL_c (op_mv _ (rfl : _ = AV.v (.int _ _))) ?_
              first
                | refine DL_c (op_ixS _ _ inferInstance rfl rfl _ rfl (by omega) (by first | assumption | decide | (simp [isl]; omega)) (by first | exact Nat.mul_one _ | rfl)) ?_
                | refine DL_c (op_ixS _ _ inferInstance rfl rfl 0 rfl (by omega) (by first | assumption | decide | (simp [isl]; omega)) (by first | exact Nat.mul_one _ | rfl)) ?_
                | refine DL_c (op_ixS _ _ inferInstance rfl rfl 1 rfl (by omega) (by first | assumption | decide | (simp [isl]; omega)) (by first | exact Nat.mul_one _ | rfl)) ?_
                | refine DL_c (op_ixS _ _ inferInstance rfl rfl (Int.toNat _) (Int.toNat_of_nonneg (by omega)).symm (by omega) (by first | assumption | decide | (simp [isl]; omega)) (by first | exact Nat.mul_one _ | rfl)) ?_
                | refine DL_c (op_ixR _ _ inferInstance rfl rfl rfl _ rfl (by omega) (by first | exact Nat.mul_one _ | rfl)) ?_
                | refine DL_c (op_ixR _ _ inferInstance rfl rfl rfl 0 rfl (by omega) (by first | exact Nat.mul_one _ | rfl)) ?_
                | refine DL_c (op_ixR _ _ inferInstance rfl rfl rfl 1 rfl (by omega) (by first | exact Nat.mul_one _ | rfl)) ?_
                | refine DL_c (op_ixR _ _ inferInstance rfl rfl rfl (Int.toNat _) (Int.toNat_of_nonneg (by omega)).symm (by omega) (by first | exact Nat.mul_one _ | rfl)) ?_
              refine DL_c (op_ldF _ inferInstance rfl (by exact isl_get _ _ (by omega)) rfl) ?_
              refine DL_c (op_mv _ (rfl : _ = AV.v (.int _ _))) ?_
              refine DL_c (op_neq (r := false) _ _ rfl rfl (by rw [hiv, bne_self_eq_false])) ?_
              refine DL_nil (hK36 _ ?_)
              clear hK36; try clear K36
              refine D_cF rfl rfl ?_
              refine D_skip (hK31 _ ?_)
              clear hK31; try clear K31
              refine D_region ?_
              refine DL_c (op_mv _ (rfl : _ = AV.v (.int _ _))) ?_
              first
                | refine DL_c (op_add _ _ rfl rfl (i64w (by omega))) ?_
                | refine DL_c (op_add _ _ rfl rfl rfl) ?_
              refine DL_c (op_as _ (rfl : _ = AV.v (.int _ _))) ?_
              refine DL_nil ?_
              exact ⟨i + 1, by omega, Le.mk [] [] rfl ⟨.v, .ptr, .v, .sl, .v, .v, .sl, .sl, lvI (by omega), trivial⟩ rfl rfl rfl trivial ⟨⟨rfl, ⟨_, rfl, .box rfl (lv_cons .sl (lv_cons .sl lv_nil))⟩, rfl⟩, trivial⟩, by omega⟩
          · try simp only [decide_eq_true_eq, decide_eq_false_iff_not, bne_iff_ne, bne_eq_false_iff_eq, beq_iff_eq, beq_eq_false_iff_ne, Bool.not_eq_true', Bool.not_eq_false', ne_eq, Int.not_lt, Int.not_le] at hc75
            refine D_exit ?_
            refine id (hK10 _ ?_)
            clear hK10; try clear K10
            refine D_region ?_
            refine DL_c (op_mv _ (rfl : _ = AV.v (.int _ _))) ?_
            first
              | refine DL_c (op_add _ _ rfl rfl (i64w (by omega))) ?_
              | refine DL_c (op_add _ _ rfl rfl rfl) ?_
            refine DL_c (op_as _ (rfl : _ = AV.v (.int _ _))) ?_
            refine DL_nil ?_
            exact ⟨p + 1, by omega, Le.mk [] [] rfl ⟨.v, .ptr, .v, .sl, lvI (by omega), trivial⟩ rfl rfl rfl trivial ⟨⟨rfl, ⟨_, rfl, .box rfl (lv_cons .sl (lv_cons .sl lv_nil))⟩, rfl⟩, trivial⟩, by omega⟩
      · skip
        have b1 : decide (c < 0) = false := decide_eq_false (by omega)
        have b2 : decide ((s.1.length : Int) ≤ c) = false := decide_eq_false (by omega)
        refine D_region ?_
        refine DL_c (op_mv _ (rfl : _ = AV.v (.int _ _))) ?_
        refine DL_c (op_lss _ _ rfl rfl b1) ?_
        refine DL_c (op_mv _ (rfl : _ = AV.v (.bool _))) ?_
        refine DL_cy rfl rfl (op_mv _ (rfl : _ = AV.v (.int _ _))) ?_
        refine DL_cy rfl rfl (op_mv _ (rfl : _ = AV.v (.int _ _))) ?_
        refine DL_cy rfl rfl (op_geq _ _ rfl rfl b2) ?_
        refine DL_c (op_pick _ _ _ rfl (rfl : _ = AV.v (.bool _))) ?_
        refine DL_c (op_mv _ (rfl : _ = AV.v (.bool _))) ?_
        refine DL_cn rfl rfl (by decide) ?_
        refine DL_cn rfl rfl (by decide) ?_
        refine DL_cn rfl rfl (by decide) ?_
        refine DL_cn rfl rfl (by decide) ?_
        refine DL_c (op_pick _ _ _ rfl (rfl : _ = AV.v (.bool _))) ?_
        refine DL_nil (hK18 _ ?_)
        clear hK18; try clear K18
        refine D_cF rfl rfl ?_
        refine D_skip (hK17 _ ?_)
        clear hK17; try clear K17
        refine D_seq fun K37 hK37 => ?_
        refine D_region ?_
        refine DL_c (op_as _ (rfl : _ = AV.v (.int _ _))) ?_
        refine DL_nil (hK37 _ ?_)
        clear hK37; try clear K37
        refine D_block ?_
        refine D_loopP (fun i : Nat => i ≤ s.1.length) (fun i => mkSt 93 [(3, .v (.int .i64 v)), (9, .ptr (9, 0) 0), (10, .v (.int .i64 (s.1.length : Int))), (12, .sl 2 (isl [k1 - 1, cell])), (13, .v (.int .i64 (p : Int))), (14, .v (.int .i64 c)), (16, .sl s.1.length (isl (app s.1 s.2))), (17, .sl s.1.length (isl (app s2.1 s2.2))), (18, .v (.int .i64 (i : Int)))] [((9, 0), .box 26 [.sl (s).1.length (isl (s).1), .sl (s).2.length (wsl (s).2)])]) (fun i => s.1.length - i) 0 ?_ ?_ ?_
        · omega
        · exact Le.mk [] [] rfl ⟨.v, .ptr, .v, .sl, .v, .v, .sl, .sl, .v, trivial⟩ rfl rfl rfl trivial ⟨⟨rfl, ⟨_, rfl, .box rfl (lv_cons .sl (lv_cons .sl lv_nil))⟩, rfl⟩, trivial⟩
        · rintro i hi
          refine D_seq fun K38 hK38 => ?_
          refine D_seq fun K39 hK39 => ?_
          refine D_region ?_
          refine DL_c (op_mv _ (rfl : _ = AV.v (.int _ _))) ?_
          refine DL_c (op_mv _ (rfl : _ = AV.v (.int _ _))) ?_
          refine DL_c (op_lss _ _ rfl rfl rfl) ?_
          refine DL_nil (hK39 _ ?_)
          clear hK39; try clear K39
          refine D_split rfl (fun hc75 => ?_) (fun hc75 => ?_)
          · try simp only [decide_eq_true_eq, decide_eq_false_iff_not, bne_iff_ne, bne_eq_false_iff_eq, beq_iff_eq, beq_eq_false_iff_ne, Bool.not_eq_true', Bool.not_eq_false', ne_eq, Int.not_lt, Int.not_le] at hc75
            have hiv := hval i (by omega)
            refine D_skip (hK38 _ ?_)
            clear hK38; try clear K38
            refine D_seq fun K40 hK40 => ?_
            refine D_block ?_
            refine D_seq fun K41 hK41 => ?_
            refine D_region ?_
            first
              | refine DL_c (op_mv _ (rfl : _ = AV.sl _ _)) ?_
              | refine DL_c (op_mv _ (rfl : _ = AV.ref _ _ _)) ?_
              | refine DL_c (op_mv _ (rfl : _ = AV.v (.slice _ _ _))) ?_
            refine DL_c (op_mv _ (rfl : _ = AV.v (.int _ _))) ?_
            first
              | refine DL_c (op_ixS _ _ inferInstance rfl rfl _ rfl (by omega) (by first | assumption | decide | (simp [isl]; omega)) (by first | exact Nat.mul_one _ | rfl)) ?_
              | refine DL_c (op_ixS _ _ inferInstance rfl rfl 0 rfl (by omega) (by first | assumption | decide | (simp [isl]; omega)) (by first | exact Nat.mul_one _ | rfl)) ?_
              | refine DL_c (op_ixS _ _ inferInstance rfl rfl 1 rfl (by omega) (by first | assumption | decide | (simp [isl]; omega)) (by first | exact Nat.mul_one _ | rfl)) ?_
              | refine DL_c (op_ixS _ _ inferInstance rfl rfl (Int.toNat _) (Int.toNat_of_nonneg (by omega)).symm (by omega) (by first | assumption | decide | (simp [isl]; omega)) (by first | exact Nat.mul_one _ | rfl)) ?_
              | refine DL_c (op_ixR _ _ inferInstance rfl rfl rfl _ rfl (by omega) (by first | exact Nat.mul_one _ | rfl)) ?_
              | refine DL_c (op_ixR _ _ inferInstance rfl rfl rfl 0 rfl (by omega) (by first | exact Nat.mul_one _ | rfl)) ?_
              | refine DL_c (op_ixR _ _ inferInstance rfl rfl rfl 1 rfl (by omega) (by first | exact Nat.mul_one _ | rfl)) ?_
              | refine DL_c (op_ixR _ _ inferInstance rfl rfl rfl (Int.toNat _) (Int.toNat_of_nonneg (by omega)).symm (by omega) (by first | exact Nat.mul_one _ | rfl)) ?_
            refine DL_c (op_ldF _ inferInstance rfl (by exact isl_get _ _ (by omega)) rfl) ?_
            refine DL_c (op_as _ (rfl : _ = AV.v (.int _ _))) ?_
            refine DL_nil (hK41 _ ?_)
            clear hK41; try clear K41
            refine D_seq fun K42 hK42 => ?_
            refine D_seq fun K43 hK43 => ?_
            refine D_region ?_
            refine DL_c (op_mv _ (rfl : _ = AV.v (.int _ _))) ?_
            refine DL_c (op_mv _ (rfl : _ = AV.v (.int _ _))) ?_
            refine DL_c (op_eql _ _ rfl rfl rfl) ?_
            refine DL_nil (hK43 _ ?_)
            clear hK43; try clear K43
            refine D_split rfl (fun hc84 => ?_) (fun hc84 => ?_)
            · try simp only [decide_eq_true_eq, decide_eq_false_iff_not, bne_iff_ne, bne_eq_false_iff_eq, beq_iff_eq, beq_eq_false_iff_ne, Bool.not_eq_true', Bool.not_eq_false', ne_eq, Int.not_lt, Int.not_le] at hc84
              rw [if_pos hc84] at hiv
              refine D_region ?_
              refine DL_c (op_mv _ (rfl : _ = AV.v (.int _ _))) ?_
              refine DL_c (op_as _ (rfl : _ = AV.v (.int _ _))) ?_
              refine DL_nil (hK42 _ ?_)
              clear hK42; try clear K42
              refine D_seq fun K44 hK44 => ?_
              refine D_region ?_
              first
                | refine DL_c (op_mv _ (rfl : _ = AV.sl _ _)) ?_
                | refine DL_c (op_mv _ (rfl : _ = AV.ref _ _ _)) ?_
                | refine DL_c (op_mv _ (rfl : _ = AV.v (.slice _ _ _))) ?_
              refine DL_c (op_mv _ (rfl : _ = AV.v (.int _ _))) ?_
              first
                | refine DL_c (op_ixS _ _ inferInstance rfl rfl _ rfl (by omega) (by first | assumption | decide | (simp [isl]; omega)) (by first | exact Nat.mul_one _ | rfl)) ?_
                | refine DL_c (op_ixS _ _ inferInstance rfl rfl 0 rfl (by omega) (by first | assumption | decide | (simp [isl]; omega)) (by first | exact Nat.mul_one _ | rfl)) ?_
                | refine DL_c (op_ixS _ _ inferInstance rfl rfl 1 rfl (by omega) (by first | assumption | decide | (simp [isl]; omega)) (by first | exact Nat.mul_one _ | rfl)) ?_
                | refine DL_c (op_ixS _ _ inferInstance rfl rfl (Int.toNat _) (Int.toNat_of_nonneg (by omega)).symm (by omega) (by first | assumption | decide | (simp [isl]; omega)) (by first | exact Nat.mul_one _ | rfl)) ?_
                | refine DL_c (op_ixR _ _ inferInstance rfl rfl rfl _ rfl (by omega) (by first | exact Nat.mul_one _ | rfl)) ?_
                | refine DL_c (op_ixR _ _ inferInstance rfl rfl rfl 0 rfl (by omega) (by first | exact Nat.mul_one _ | rfl)) ?_
                | refine DL_c (op_ixR _ _ inferInstance rfl rfl rfl 1 rfl (by omega) (by first | exact Nat.mul_one _ | rfl)) ?_
                | refine DL_c (op_ixR _ _ inferInstance rfl rfl rfl (Int.toNat _) (Int.toNat_of_nonneg (by omega)).symm (by omega) (by first | exact Nat.mul_one _ | rfl)) ?_
              refine DL_c (op_ldF _ inferInstance rfl (by exact isl_get _ _ (by omega)) rfl) ?_
              refine DL_c (op_mv _ (rfl : _ = AV.v (.int _ _))) ?_
              refine DL_c (op_neq (r := false) _ _ rfl rfl (by rw [hiv, bne_self_eq_false])) ?_
              refine DL_nil (hK44 _ ?_)
              clear hK44; try clear K44
              refine D_cF rfl rfl ?_
              refine D_skip (hK40 _ ?_)
              clear hK40; try clear K40
              refine D_region ?_
              refine DL_c (op_mv _ (rfl : _ = AV.v (.int _ _))) ?_
              first
                | refine DL_c (op_add _ _ rfl rfl (i64w (by omega))) ?_
                | refine DL_c (op_add _ _ rfl rfl rfl) ?_
              refine DL_c (op_as _ (rfl : _ = AV.v (.int _ _))) ?_
              refine DL_nil ?_
              exact ⟨i + 1, by omega, Le.mk [] [] rfl ⟨.v, .ptr, .v, .sl, .v, .v, .sl, .sl, lvI (by omega), trivial⟩ rfl rfl rfl trivial ⟨⟨rfl, ⟨_, rfl, .box rfl (lv_cons .sl (lv_cons .sl lv_nil))⟩, rfl⟩, trivial⟩, by omega⟩
            · try simp only [decide_eq_true_eq, decide_eq_false_iff_not, bne_iff_ne, bne_eq_false_iff_eq, beq_iff_eq, beq_eq_false_iff_ne, Bool.not_eq_true', Bool.not_eq_false', ne_eq, Int.not_lt, Int.not_le] at hc84
              rw [if_neg hc84] at hiv
              refine D_skip (hK42 _ ?_)
              clear hK42; try clear K42
              refine D_seq fun K45 hK45 => ?_
              refine D_region ?_
              first
                | refine DL_c (op_mv _ (rfl : _ = AV.sl _ _)) ?_
                | refine DL_c (op_mv _ (rfl : _ = AV.ref _ _ _)) ?_
                | refine DL_c (op_mv _ (rfl : _ = AV.v (.slice _ _ _))) ?_
              refine DL_c (op_mv _ (rfl : _ = AV.v (.int _ _))) ?_
              first
                | refine DL_c (op_ixS _ _ inferInstance rfl rfl _ rfl (by omega) (by first | assumption | decide | (simp [isl]; omega)) (by first | exact Nat.mul_one _ | rfl)) ?_
                | refine DL_c (op_ixS _ _ inferInstance rfl rfl 0 rfl (by omega) (by first | assumption | decide | (simp [isl]; omega)) (by first | exact Nat.mul_one _ | rfl)) ?_
                | refine DL_c (op_ixS _ _ inferInstance rfl rfl 1 rfl (by omega) (by first | assumption | decide | (simp [isl]; omega)) (by first | exact Nat.mul_one _ | rfl)) ?_
                | refine DL_c (op_ixS _ _ inferInstance rfl rfl (Int.toNat _) (Int.toNat_of_nonneg (by omega)).symm (by omega) (by first | assumption | decide | (simp [isl]; omega)) (by first | exact Nat.mul_one _ | rfl)) ?_
                | refine DL_c (op_ixR _ _ inferInstance rfl rfl rfl _ rfl (by omega) (by first | exact Nat.mul_one _ | rfl)) ?_
                | refine DL_c (op_ixR _ _ inferInstance rfl rfl rfl 0 rfl (by omega) (by first | exact Nat.mul_one _ | rfl)) ?_
                | refine DL_c (op_ixR _ _ inferInstance rfl rfl rfl 1 rfl (by omega) (by first | exact Nat.mul_one _ | rfl)) ?_
                | refine DL_c (op_ixR _ _ inferInstance rfl rfl rfl (Int.toNat _) (Int.toNat_of_nonneg (by omega)).symm (by omega) (by first | exact Nat.mul_one _ | rfl)) ?_
              refine DL_c (op_ldF _ inferInstance rfl (by exact isl_get _ _ (by omega)) rfl) ?_
              refine DL_c (op_mv _ (rfl : _ = AV.v (.int _ _))) ?_
              refine DL_c (op_neq (r := false) _ _ rfl rfl (by rw [hiv, bne_self_eq_false])) ?_
              refine DL_nil (hK45 _ ?_)
              clear hK45; try clear K45
              refine D_cF rfl rfl ?_
              refine D_skip (hK40 _ ?_)
              clear hK40; try clear K40
              refine D_region ?_
              refine DL_c (op_mv _ (rfl : _ = AV.v (.int _ _))) ?_
              first
                | refine DL_c (op_add _ _ rfl rfl (i64w (by omega))) ?_
                | refine DL_c (op_add _ _ rfl rfl rfl) ?_
              refine DL_c (op_as _ (rfl : _ = AV.v (.int _ _))) ?_
              refine DL_nil ?_
              exact ⟨i + 1, by omega, Le.mk [] [] rfl ⟨.v, .ptr, .v, .sl, .v, .v, .sl, .sl, lvI (by omega), trivial⟩ rfl rfl rfl trivial ⟨⟨rfl, ⟨_, rfl, .box rfl (lv_cons .sl (lv_cons .sl lv_nil))⟩, rfl⟩, trivial⟩, by omega⟩
          · try simp only [decide_eq_true_eq, decide_eq_false_iff_not, bne_iff_ne, bne_eq_false_iff_eq, beq_iff_eq, beq_eq_false_iff_ne, Bool.not_eq_true', Bool.not_eq_false', ne_eq, Int.not_lt, Int.not_le] at hc75
            refine D_exit ?_
            refine id (hK10 _ ?_)
            clear hK10; try clear K10
            refine D_region ?_
            refine DL_c (op_mv _ (rfl : _ = AV.v (.int _ _))) ?_
            first
              | refine DL_c (op_add _ _ rfl rfl (i64w (by omega))) ?_
              | refine DL_c (op_add _ _ rfl rfl rfl) ?_
            refine DL_c (op_as _ (rfl : _ = AV.v (.int _ _))) ?_
            refine DL_nil ?_
            exact ⟨p + 1, by omega, Le.mk [] [] rfl ⟨.v, .ptr, .v, .sl, lvI (by omega), trivial⟩ rfl rfl rfl trivial ⟨⟨rfl, ⟨_, rfl, .box rfl (lv_cons .sl (lv_cons .sl lv_nil))⟩, rfl⟩, trivial⟩, by omega⟩
    · try simp only [decide_eq_true_eq, decide_eq_false_iff_not, bne_iff_ne, bne_eq_false_iff_eq, beq_iff_eq, beq_eq_false_iff_ne, Bool.not_eq_true', Bool.not_eq_false', ne_eq, Int.not_lt, Int.not_le] at hc35
      refine D_exit ?_
      refine id (hK6 _ ?_)
      clear hK6; try clear K6
      refine D_seq fun K46 hK46 => ?_
      refine D_region ?_
      refine DL_c (op_callH inferInstance (by repeat' (first | exact argsLv_nil | refine argsLv_cons ?_ ?_ | exact Lv.v | exact Lv.sl | exact Lv.fp | exact Lv.nil | refine Lv.agg rfl ?_ | exact lv_nil | refine lv_cons ?_ ?_)) (lives_spec) rfl rfl) ?_
      refine DL_c (op_as _ (rfl : _ = AV.v (.bool _))) ?_
      refine DL_nil (hK46 _ ?_)
      clear hK46; try clear K46
      refine D_ret ?_
      exact ret1 (.inr rfl) rfl (.tmp (rfl : _ = AV.v (.bool true))) (Le.out [] [] .v rfl rfl rfl trivial trivial)

theorem resize_law (cells : Int) (hc : -9223372036854775808 ≤ cells ∧ cells ≤ 9223372036854775807) (nl : Nat) (ls : List Int) (hn : ls.length = nl) (h1 : nl ≤ 9223372036854775807) (hr : Rng ls) (size : Int) (hsz : -9223372036854775808 ≤ size ∧ size ≤ 9223372036854775807) :
    Spec Try.prog 8 (inSt [.v (.int .i64 cells), .sl nl (isl ls), .v (.int .i64 size)] []) (outSt (.v (.bool true)) []) := by
  have hb := built_spec cells hc nl ls hn h1 hr
  have hg := Good.run (around cells 7).toNat (by have := around_lo cells 7 (by omega); have := around_hi cells 7 (by omega); omega) (ls.take 20)
  generalize run (around cells 7).toNat (ls.take 20) = s at *
  have hgn := hg.n
  have hgm := hg.m
  have har := around_spec size 17 (by omega) (by omega) hsz.1 hsz.2
  have ha0 := around_lo size 17 (by omega)
  have ha1 := around_hi size 17 (by omega)
  generalize around size 17 = k0 at *
  obtain ⟨k, rfl⟩ := Int.eq_ofNat_of_zero_le ha0
  have hA : (app s.1 s.2).length = s.1.length := length_app _ _
  have hfl := length_fit (app s.1 s.2) k
  have hfe : fit (app s.1 s.2) s.1.length = app s.1 s.2 := by
    rw [fit, hA, Nat.sub_self, List.take_of_length_le (by omega)]; simp
  have hrs := resize_spec _ _ s.1.length s.1 s.2 rfl rfl (by omega) (by omega) (by omega) hg.ok
  rw [hfe] at hrs
  refine Spec.ofN Try.func8 rfl Try.ntmps8 rfl ?_
  refine D_seq fun K1 hK1 => ?_
  refine D_region ?_
  refine DL_c (op_as _ (rfl : _ = AV.v (.bool _))) ?_
  refine DL_nil (hK1 _ ?_)
  clear hK1; try clear K1
  refine D_seq fun K2 hK2 => ?_
  refine D_region ?_
  refine DL_c (op_mv _ (rfl : _ = AV.v (.int _ _))) ?_
  first
    | refine DL_c (op_mv _ (rfl : _ = AV.sl _ _)) ?_
    | refine DL_c (op_mv _ (rfl : _ = AV.ref _ _ _)) ?_
    | refine DL_c (op_mv _ (rfl : _ = AV.v (.slice _ _ _))) ?_
  refine DL_c (op_callH inferInstance (by repeat' (first | exact argsLv_nil | refine argsLv_cons ?_ ?_ | exact Lv.v | exact Lv.sl | exact Lv.fp | exact Lv.nil | refine Lv.agg rfl ?_ | exact lv_nil | refine lv_cons ?_ ?_)) (hb) rfl rfl) ?_
  refine DL_c (op_alloc (7, 0) inferInstance rfl rfl) ?_
  first
    | refine DL_c (op_stB _ _ inferInstance rfl rfl rfl rfl (Nat.le_of_ble_eq_true rfl) rfl) ?_
    | refine DL_c (op_stR _ _ inferInstance rfl rfl rfl rfl rfl (by first | exact Nat.le_of_ble_eq_true rfl | (simp; omega)) rfl) ?_
  refine DL_nil (hK2 _ ?_)
  clear hK2; try clear K2
  refine D_seq fun K3 hK3 => ?_
  refine D_region ?_
  refine DL_c (op_mv _ (rfl : _ = AV.v (.int _ _))) ?_
  refine DL_c (op_callH inferInstance (by repeat' (first | exact argsLv_nil | refine argsLv_cons ?_ ?_ | exact Lv.v | exact Lv.sl | exact Lv.fp | exact Lv.nil | refine Lv.agg rfl ?_ | exact lv_nil | refine lv_cons ?_ ?_)) (har) rfl rfl) ?_
  refine DL_c (op_as _ (rfl : _ = AV.v (.int _ _))) ?_
  refine DL_nil (hK3 _ ?_)
  clear hK3; try clear K3
  refine D_seq fun K4 hK4 => ?_
  refine D_region ?_
  first
    | refine DL_c (op_ldBA _ inferInstance rfl rfl rfl rfl) ?_
    | refine DL_c (op_ldRA _ inferInstance rfl rfl (by first | rfl | assumption) rfl) ?_
    | refine DL_c (op_ldFA _ inferInstance rfl (by first | rfl | assumption) rfl) ?_
  refine DL_c (op_mv _ (rfl : _ = AV.v (.int _ _))) ?_
  refine DL_c (op_callH inferInstance (by repeat' (first | exact argsLv_nil | refine argsLv_cons ?_ ?_ | exact Lv.v | exact Lv.sl | exact Lv.fp | exact Lv.nil | refine Lv.agg rfl ?_ | exact lv_nil | refine lv_cons ?_ ?_)) (resize_spec _ _ k s.1 s.2 rfl rfl (by omega) (by omega) (by omega) hg.ok) rfl rfl) ?_
  refine DL_c (op_alloc (9, 0) inferInstance rfl rfl) ?_
  first
    | refine DL_c (op_stB _ _ inferInstance rfl rfl rfl rfl (Nat.le_of_ble_eq_true rfl) rfl) ?_
    | refine DL_c (op_stR _ _ inferInstance rfl rfl rfl rfl rfl (by first | exact Nat.le_of_ble_eq_true rfl | (simp; omega)) rfl) ?_
  refine DL_nil (hK4 _ ?_)
  clear hK4; try clear K4
  refine D_seq fun K5 hK5 => ?_
  refine D_region ?_
  first
    | refine DL_c (op_ldBA _ inferInstance rfl rfl rfl rfl) ?_
    | refine DL_c (op_ldRA _ inferInstance rfl rfl (by first | rfl | assumption) rfl) ?_
    | refine DL_c (op_ldFA _ inferInstance rfl (by first | rfl | assumption) rfl) ?_
  refine DL_c (op_callH inferInstance (by repeat' (first | exact argsLv_nil | refine argsLv_cons ?_ ?_ | exact Lv.v | exact Lv.sl | exact Lv.fp | exact Lv.nil | refine Lv.agg rfl ?_ | exact lv_nil | refine lv_cons ?_ ?_)) (view_spec _ _ s.1 s.2 rfl rfl (by omega) (by omega) hg.ok) rfl rfl) ?_
  first
    | refine DL_c (op_as _ (rfl : _ = AV.sl _ _)) ?_
    | refine DL_c (op_as _ (rfl : _ = AV.ref _ _ _)) ?_
    | refine DL_c (op_as _ (rfl : _ = AV.v (.slice _ _ _))) ?_
  refine DL_nil (hK5 _ ?_)
  clear hK5; try clear K5
  refine D_seq fun K6 hK6 => ?_
  refine D_seq fun K7 hK7 => ?_
  refine D_region ?_
  first
    | refine DL_c (op_fldP _ inferInstance rfl rfl rfl) ?_
    | refine DL_c (op_fldF _ inferInstance rfl rfl) ?_
  first
    | refine DL_c (op_ldB _ inferInstance rfl rfl (rfl : _ = some (AV.sl _ _))) ?_
    | refine DL_c (op_ldB _ inferInstance rfl rfl (rfl : _ = some (AV.ref _ _ _))) ?_
    | refine DL_c (op_ldB _ inferInstance rfl rfl (rfl : _ = some (AV.v (.slice _ _ _)))) ?_
    | refine DL_c (op_ldR _ inferInstance rfl rfl (by first | rfl | exact isl_get _ _ (by omega) | exact bsl_get _ _ (by omega) | exact wsl_get0 _ _ (by omega) | exact wsl_get1 _ _ (by omega) | assumption) rfl) ?_
    | refine DL_c (op_ldF _ inferInstance rfl (by first | rfl | exact isl_get _ _ (by omega) | exact bsl_get _ _ (by omega) | exact wsl_get0 _ _ (by omega) | exact wsl_get1 _ _ (by omega) | assumption) rfl) ?_
  first
    | refine DL_c (op_lenS _ inferInstance rfl) ?_
    | refine DL_c (op_lenR _ inferInstance rfl rfl) ?_
    | refine DL_c (op_lenN _ inferInstance rfl) ?_
  refine DL_c (op_mv _ (rfl : _ = AV.v (.int _ _))) ?_
  refine DL_c (op_neq _ _ rfl rfl (bne_self_eq_false _)) ?_
  refine DL_c (op_mv _ (rfl : _ = AV.v (.bool _))) ?_
  first
    | refine DL_cy rfl rfl (op_fldP _ inferInstance rfl rfl rfl) ?_
    | refine DL_cy rfl rfl (op_fldF _ inferInstance rfl rfl) ?_
  first
    | refine DL_cy rfl rfl (op_ldB _ inferInstance rfl rfl (rfl : _ = some (AV.sl _ _))) ?_
    | refine DL_cy rfl rfl (op_ldB _ inferInstance rfl rfl (rfl : _ = some (AV.ref _ _ _))) ?_
    | refine DL_cy rfl rfl (op_ldB _ inferInstance rfl rfl (rfl : _ = some (AV.v (.slice _ _ _)))) ?_
    | refine DL_cy rfl rfl (op_ldR _ inferInstance rfl rfl (by first | rfl | exact isl_get _ _ (by omega) | exact bsl_get _ _ (by omega) | exact wsl_get0 _ _ (by omega) | exact wsl_get1 _ _ (by omega) | assumption) rfl) ?_
    | refine DL_cy rfl rfl (op_ldF _ inferInstance rfl (by first | rfl | exact isl_get _ _ (by omega) | exact bsl_get _ _ (by omega) | exact wsl_get0 _ _ (by omega) | exact wsl_get1 _ _ (by omega) | assumption) rfl) ?_
  first
    | refine DL_cy rfl rfl (op_lenS _ inferInstance rfl) ?_
    | refine DL_cy rfl rfl (op_lenR _ inferInstance rfl rfl) ?_
    | refine DL_cy rfl rfl (op_lenN _ inferInstance rfl) ?_
  refine DL_cy rfl rfl (op_neq _ _ rfl rfl rfl) ?_
  refine DL_c (op_pick _ _ _ rfl (rfl : _ = AV.v (.bool _))) ?_
  refine DL_nil (hK7 _ ?_)
  clear hK7; try clear K7
  refine D_cF rfl rfl ?_
  refine D_skip (hK6 _ ?_)
  clear hK6; try clear K6
  refine D_seq fun K8 hK8 => ?_
  refine D_seq fun K9 hK9 => ?_
  refine D_region ?_
  refine DL_c (op_as _ (rfl : _ = AV.v (.int _ _))) ?_
  refine DL_nil (hK9 _ ?_)
  clear hK9; try clear K9
  refine D_block ?_
  refine D_loopP (fun i : Nat => i ≤ k) (fun i => mkSt 65 [(7, .ptr (7, 0) 0), (8, .v (.int .i64 (k : Int))), (9, .ptr (9, 0) 0), (10, .sl s.1.length (isl (app s.1 s.2))), (11, .v (.int .i64 (i : Int)))] [((7, 0), .box 26 [.sl (s).1.length (isl (s).1), .sl (s).2.length (wsl (s).2)]), ((9, 0), .box 26 [.sl k (isl (fit (app s.1 s.2) k)), .sl 0 []])]) (fun i => k - i) 0 ?_ ?_ ?_
  · omega
  · exact Le.mk [] [] rfl ⟨.ptr, .v, .ptr, .sl, .v, trivial⟩ rfl rfl rfl trivial ⟨⟨rfl, ⟨_, rfl, .box rfl (lv_cons .sl (lv_cons .sl lv_nil))⟩, rfl⟩, ⟨rfl, ⟨_, rfl, .box rfl (lv_cons .sl (lv_cons .sl lv_nil))⟩, rfl⟩, trivial⟩
  · rintro i hi
    refine D_seq fun K10 hK10 => ?_
    refine D_seq fun K11 hK11 => ?_
    refine D_region ?_
    refine DL_c (op_mv _ (rfl : _ = AV.v (.int _ _))) ?_
    refine DL_c (op_mv _ (rfl : _ = AV.v (.int _ _))) ?_
    refine DL_c (op_lss _ _ rfl rfl rfl) ?_
    refine DL_nil (hK11 _ ?_)
    clear hK11; try clear K11
    refine D_split rfl (fun hc36 => ?_) (fun hc36 => ?_)
    · try simp only [decide_eq_true_eq, decide_eq_false_iff_not, bne_iff_ne, bne_eq_false_iff_eq, beq_iff_eq, beq_eq_false_iff_ne, Bool.not_eq_true', Bool.not_eq_false', ne_eq, Int.not_lt, Int.not_le] at hc36
      refine D_skip (hK10 _ ?_)
      clear hK10; try clear K10
      refine D_seq fun K12 hK12 => ?_
      refine D_block ?_
      refine D_seq fun K13 hK13 => ?_
      refine D_region ?_
      refine DL_c (op_as _ (rfl : _ = AV.v (.int _ _))) ?_
      refine DL_nil (hK13 _ ?_)
      clear hK13; try clear K13
      refine D_seq fun K14 hK14 => ?_
      refine D_seq fun K15 hK15 => ?_
      refine D_region ?_
      refine DL_c (op_mv _ (rfl : _ = AV.v (.int _ _))) ?_
      first
        | refine DL_c (op_mv _ (rfl : _ = AV.sl _ _)) ?_
        | refine DL_c (op_mv _ (rfl : _ = AV.ref _ _ _)) ?_
        | refine DL_c (op_mv _ (rfl : _ = AV.v (.slice _ _ _))) ?_
      first
        | refine DL_c (op_lenS _ inferInstance rfl) ?_
        | refine DL_c (op_lenR _ inferInstance rfl rfl) ?_
        | refine DL_c (op_lenN _ inferInstance rfl) ?_
      refine DL_c (op_lss _ _ rfl rfl rfl) ?_
      refine DL_nil (hK15 _ ?_)
      clear hK15; try clear K15
      refine D_split rfl (fun hc42 => ?_) (fun hc42 => ?_)
      · try simp only [decide_eq_true_eq, decide_eq_false_iff_not, bne_iff_ne, bne_eq_false_iff_eq, beq_iff_eq, beq_eq_false_iff_ne, Bool.not_eq_true', Bool.not_eq_false', ne_eq, Int.not_lt, Int.not_le] at hc42
        have hiv : (fit (app s.1 s.2) k).getD i 0 = (app s.1 s.2).getD i 0 := by
         simp only [List.getD_eq_getElem?_getD, fit]
         rw [List.getElem?_append_left (by rw [List.length_take]; omega), List.getElem?_take_of_lt (by omega)]
        refine D_region ?_
        first
          | refine DL_c (op_mv _ (rfl : _ = AV.sl _ _)) ?_
          | refine DL_c (op_mv _ (rfl : _ = AV.ref _ _ _)) ?_
          | refine DL_c (op_mv _ (rfl : _ = AV.v (.slice _ _ _))) ?_
        refine DL_c (op_mv _ (rfl : _ = AV.v (.int _ _))) ?_
        first
          | refine DL_c (op_ixS _ _ inferInstance rfl rfl _ rfl (by omega) (by first | assumption | decide | (simp [isl]; omega)) (by first | exact Nat.mul_one _ | rfl)) ?_
          | refine DL_c (op_ixS _ _ inferInstance rfl rfl 0 rfl (by omega) (by first | assumption | decide | (simp [isl]; omega)) (by first | exact Nat.mul_one _ | rfl)) ?_
          | refine DL_c (op_ixS _ _ inferInstance rfl rfl 1 rfl (by omega) (by first | assumption | decide | (simp [isl]; omega)) (by first | exact Nat.mul_one _ | rfl)) ?_
          | refine DL_c (op_ixS _ _ inferInstance rfl rfl (Int.toNat _) (Int.toNat_of_nonneg (by omega)).symm (by omega) (by first | assumption | decide | (simp [isl]; omega)) (by first | exact Nat.mul_one _ | rfl)) ?_
          | refine DL_c (op_ixR _ _ inferInstance rfl rfl rfl _ rfl (by omega) (by first | exact Nat.mul_one _ | rfl)) ?_
          | refine DL_c (op_ixR _ _ inferInstance rfl rfl rfl 0 rfl (by omega) (by first | exact Nat.mul_one _ | rfl)) ?_
          | refine DL_c (op_ixR _ _ inferInstance rfl rfl rfl 1 rfl (by omega) (by first | exact Nat.mul_one _ | rfl)) ?_
          | refine DL_c (op_ixR _ _ inferInstance rfl rfl rfl (Int.toNat _) (Int.toNat_of_nonneg (by omega)).symm (by omega) (by first | exact Nat.mul_one _ | rfl)) ?_
        refine DL_c (op_ldF _ inferInstance rfl (by exact isl_get _ _ (by omega)) rfl) ?_
        refine DL_c (op_as _ (rfl : _ = AV.v (.int _ _))) ?_
        refine DL_nil (hK14 _ ?_)
        clear hK14; try clear K14
        refine D_seq fun K16 hK16 => ?_
        refine D_region ?_
        first
          | refine DL_c (op_fldP _ inferInstance rfl rfl rfl) ?_
          | refine DL_c (op_fldF _ inferInstance rfl rfl) ?_
        first
          | refine DL_c (op_ldB _ inferInstance rfl rfl (rfl : _ = some (AV.sl _ _))) ?_
          | refine DL_c (op_ldB _ inferInstance rfl rfl (rfl : _ = some (AV.ref _ _ _))) ?_
          | refine DL_c (op_ldB _ inferInstance rfl rfl (rfl : _ = some (AV.v (.slice _ _ _)))) ?_
          | refine DL_c (op_ldR _ inferInstance rfl rfl (by first | rfl | exact isl_get _ _ (by omega) | exact bsl_get _ _ (by omega) | exact wsl_get0 _ _ (by omega) | exact wsl_get1 _ _ (by omega) | assumption) rfl) ?_
          | refine DL_c (op_ldF _ inferInstance rfl (by first | rfl | exact isl_get _ _ (by omega) | exact bsl_get _ _ (by omega) | exact wsl_get0 _ _ (by omega) | exact wsl_get1 _ _ (by omega) | assumption) rfl) ?_
        refine DL_c (op_mv _ (rfl : _ = AV.v (.int _ _))) ?_
        first
          | refine DL_c (op_ixS _ _ inferInstance rfl rfl _ rfl (by omega) (by first | assumption | decide | (simp [isl]; omega)) (by first | exact Nat.mul_one _ | rfl)) ?_
          | refine DL_c (op_ixS _ _ inferInstance rfl rfl 0 rfl (by omega) (by first | assumption | decide | (simp [isl]; omega)) (by first | exact Nat.mul_one _ | rfl)) ?_
          | refine DL_c (op_ixS _ _ inferInstance rfl rfl 1 rfl (by omega) (by first | assumption | decide | (simp [isl]; omega)) (by first | exact Nat.mul_one _ | rfl)) ?_
          | refine DL_c (op_ixS _ _ inferInstance rfl rfl (Int.toNat _) (Int.toNat_of_nonneg (by omega)).symm (by omega) (by first | assumption | decide | (simp [isl]; omega)) (by first | exact Nat.mul_one _ | rfl)) ?_
          | refine DL_c (op_ixR _ _ inferInstance rfl rfl rfl _ rfl (by omega) (by first | exact Nat.mul_one _ | rfl)) ?_
          | refine DL_c (op_ixR _ _ inferInstance rfl rfl rfl 0 rfl (by omega) (by first | exact Nat.mul_one _ | rfl)) ?_
          | refine DL_c (op_ixR _ _ inferInstance rfl rfl rfl 1 rfl (by omega) (by first | exact Nat.mul_one _ | rfl)) ?_
          | refine DL_c (op_ixR _ _ inferInstance rfl rfl rfl (Int.toNat _) (Int.toNat_of_nonneg (by omega)).symm (by omega) (by first | exact Nat.mul_one _ | rfl)) ?_
        refine DL_c (op_ldF _ inferInstance rfl (by exact isl_get _ _ (by omega)) rfl) ?_
        refine DL_c (op_mv _ (rfl : _ = AV.v (.int _ _))) ?_
        refine DL_c (op_neq (r := false) _ _ rfl rfl (by rw [hiv, bne_self_eq_false])) ?_
        refine DL_nil (hK16 _ ?_)
        clear hK16; try clear K16
        refine D_cF rfl rfl ?_
        refine D_skip (hK12 _ ?_)
        clear hK12; try clear K12
        refine D_region ?_
        refine DL_c (op_mv _ (rfl : _ = AV.v (.int _ _))) ?_
        first
          | refine DL_c (op_add _ _ rfl rfl (i64w (by omega))) ?_
          | refine DL_c (op_add _ _ rfl rfl rfl) ?_
        refine DL_c (op_as _ (rfl : _ = AV.v (.int _ _))) ?_
        refine DL_nil ?_
        exact ⟨i + 1, by omega, Le.mk [] [] rfl ⟨.ptr, .v, .ptr, .sl, lvI (by omega), trivial⟩ rfl rfl rfl trivial ⟨⟨rfl, ⟨_, rfl, .box rfl (lv_cons .sl (lv_cons .sl lv_nil))⟩, rfl⟩, ⟨rfl, ⟨_, rfl, .box rfl (lv_cons .sl (lv_cons .sl lv_nil))⟩, rfl⟩, trivial⟩, by omega⟩
      · try simp only [decide_eq_true_eq, decide_eq_false_iff_not, bne_iff_ne, bne_eq_false_iff_eq, beq_iff_eq, beq_eq_false_iff_ne, Bool.not_eq_true', Bool.not_eq_false', ne_eq, Int.not_lt, Int.not_le] at hc42
        have hiv : (fit (app s.1 s.2) k).getD i 0 = 0 := by
         simp only [List.getD_eq_getElem?_getD, fit]
         rw [List.getElem?_append_right (by rw [List.length_take]; omega), List.getElem?_replicate]
         split <;> rfl
        refine D_skip (hK14 _ ?_)
        clear hK14; try clear K14
        refine D_seq fun K17 hK17 => ?_
        refine D_region ?_
        first
          | refine DL_c (op_fldP _ inferInstance rfl rfl rfl) ?_
          | refine DL_c (op_fldF _ inferInstance rfl rfl) ?_
        first
          | refine DL_c (op_ldB _ inferInstance rfl rfl (rfl : _ = some (AV.sl _ _))) ?_
          | refine DL_c (op_ldB _ inferInstance rfl rfl (rfl : _ = some (AV.ref _ _ _))) ?_
          | refine DL_c (op_ldB _ inferInstance rfl rfl (rfl : _ = some (AV.v (.slice _ _ _)))) ?_
          | refine DL_c (op_ldR _ inferInstance rfl rfl (by first | rfl | exact isl_get _ _ (by omega) | exact bsl_get _ _ (by omega) | exact wsl_get0 _ _ (by omega) | exact wsl_get1 _ _ (by omega) | assumption) rfl) ?_
          | refine DL_c (op_ldF _ inferInstance rfl (by first | rfl | exact isl_get _ _ (by omega) | exact bsl_get _ _ (by omega) | exact wsl_get0 _ _ (by omega) | exact wsl_get1 _ _ (by omega) | assumption) rfl) ?_
        refine DL_c (op_mv _ (rfl : _ = AV.v (.int _ _))) ?_
        first
          | refine DL_c (op_ixS _ _ inferInstance rfl rfl _ rfl (by omega) (by first | assumption | decide | (simp [isl]; omega)) (by first | exact Nat.mul_one _ | rfl)) ?_
          | refine DL_c (op_ixS _ _ inferInstance rfl rfl 0 rfl (by omega) (by first | assumption | decide | (simp [isl]; omega)) (by first | exact Nat.mul_one _ | rfl)) ?_
          | refine DL_c (op_ixS _ _ inferInstance rfl rfl 1 rfl (by omega) (by first | assumption | decide | (simp [isl]; omega)) (by first | exact Nat.mul_one _ | rfl)) ?_
          | refine DL_c (op_ixS _ _ inferInstance rfl rfl (Int.toNat _) (Int.toNat_of_nonneg (by omega)).symm (by omega) (by first | assumption | decide | (simp [isl]; omega)) (by first | exact Nat.mul_one _ | rfl)) ?_
          | refine DL_c (op_ixR _ _ inferInstance rfl rfl rfl _ rfl (by omega) (by first | exact Nat.mul_one _ | rfl)) ?_
          | refine DL_c (op_ixR _ _ inferInstance rfl rfl rfl 0 rfl (by omega) (by first | exact Nat.mul_one _ | rfl)) ?_
          | refine DL_c (op_ixR _ _ inferInstance rfl rfl rfl 1 rfl (by omega) (by first | exact Nat.mul_one _ | rfl)) ?_
          | refine DL_c (op_ixR _ _ inferInstance rfl rfl rfl (Int.toNat _) (Int.toNat_of_nonneg (by omega)).symm (by omega) (by first | exact Nat.mul_one _ | rfl)) ?_
        refine DL_c (op_ldF _ inferInstance rfl (by exact isl_get _ _ (by omega)) rfl) ?_
        refine DL_c (op_mv _ (rfl : _ = AV.v (.int _ _))) ?_
        refine DL_c (op_neq (r := false) _ _ rfl rfl (by rw [hiv, bne_self_eq_false])) ?_
        refine DL_nil (hK17 _ ?_)
        clear hK17; try clear K17
        refine D_cF rfl rfl ?_
        refine D_skip (hK12 _ ?_)
        clear hK12; try clear K12
        refine D_region ?_
        refine DL_c (op_mv _ (rfl : _ = AV.v (.int _ _))) ?_
        first
          | refine DL_c (op_add _ _ rfl rfl (i64w (by omega))) ?_
          | refine DL_c (op_add _ _ rfl rfl rfl) ?_
        refine DL_c (op_as _ (rfl : _ = AV.v (.int _ _))) ?_
        refine DL_nil ?_
        exact ⟨i + 1, by omega, Le.mk [] [] rfl ⟨.ptr, .v, .ptr, .sl, lvI (by omega), trivial⟩ rfl rfl rfl trivial ⟨⟨rfl, ⟨_, rfl, .box rfl (lv_cons .sl (lv_cons .sl lv_nil))⟩, rfl⟩, ⟨rfl, ⟨_, rfl, .box rfl (lv_cons .sl (lv_cons .sl lv_nil))⟩, rfl⟩, trivial⟩, by omega⟩
    · try simp only [decide_eq_true_eq, decide_eq_false_iff_not, bne_iff_ne, bne_eq_false_iff_eq, beq_iff_eq, beq_eq_false_iff_ne, Bool.not_eq_true', Bool.not_eq_false', ne_eq, Int.not_lt, Int.not_le] at hc36
      refine D_exit ?_
      refine id (hK8 _ ?_)
      clear hK8; try clear K8
      refine D_seq fun K18 hK18 => ?_
      refine D_any 11 [54, 55, 56, 57, 58, 59, 60, 61, 62, 63, 64] [] (by kernel_rfl) (by kernel_rfl) rfl (nodupO_iff rfl) ?_
      first
        | refine any_c (_, none) (fun τ => op_ldBA _ inferInstance rfl rfl rfl rfl) ?_
        | refine any_c (_, none) (fun τ => op_ldRA _ inferInstance rfl rfl (by first | rfl | assumption) rfl) ?_
        | refine any_c (_, none) (fun τ => op_ldFA _ inferInstance rfl (by first | rfl | assumption) rfl) ?_
      first
        | refine any_c (_, none) (fun τ => op_fldP _ inferInstance rfl rfl rfl) ?_
        | refine any_c (_, none) (fun τ => op_fldF _ inferInstance rfl rfl) ?_
      first
        | refine any_c (_, none) (fun τ => op_ldB _ inferInstance rfl rfl (rfl : _ = some (AV.sl _ _))) ?_
        | refine any_c (_, none) (fun τ => op_ldB _ inferInstance rfl rfl (rfl : _ = some (AV.ref _ _ _))) ?_
        | refine any_c (_, none) (fun τ => op_ldB _ inferInstance rfl rfl (rfl : _ = some (AV.v (.slice _ _ _)))) ?_
        | refine any_c (_, none) (fun τ => op_ldR _ inferInstance rfl rfl (by first | rfl | exact isl_get _ _ (by omega) | exact bsl_get _ _ (by omega) | exact wsl_get0 _ _ (by omega) | exact wsl_get1 _ _ (by omega) | assumption) rfl) ?_
        | refine any_c (_, none) (fun τ => op_ldF _ inferInstance rfl (by first | rfl | exact isl_get _ _ (by omega) | exact bsl_get _ _ (by omega) | exact wsl_get0 _ _ (by omega) | exact wsl_get1 _ _ (by omega) | assumption) rfl) ?_
      first
        | refine any_c (_, none) (fun τ => op_lenS _ inferInstance rfl) ?_
        | refine any_c (_, none) (fun τ => op_lenR _ inferInstance rfl rfl) ?_
        | refine any_c (_, none) (fun τ => op_lenN _ inferInstance rfl) ?_
      refine any_c (_, none) (fun τ => op_callH inferInstance (by repeat' (first | exact argsLv_nil | refine argsLv_cons ?_ ?_ | exact Lv.v | exact Lv.sl | exact Lv.fp | exact Lv.nil | refine Lv.agg rfl ?_ | exact lv_nil | refine lv_cons ?_ ?_)) (hrs) rfl rfl) ?_
      first
        | refine any_c (_, none) (fun τ => op_ldBA _ inferInstance rfl rfl rfl rfl) ?_
        | refine any_c (_, none) (fun τ => op_ldRA _ inferInstance rfl rfl (by first | rfl | assumption) rfl) ?_
        | refine any_c (_, none) (fun τ => op_ldFA _ inferInstance rfl (by first | rfl | assumption) rfl) ?_
      refine any_c (_, none) (fun τ => op_callH inferInstance (by repeat' (first | exact argsLv_nil | refine argsLv_cons ?_ ?_ | exact Lv.v | exact Lv.sl | exact Lv.fp | exact Lv.nil | refine Lv.agg rfl ?_ | exact lv_nil | refine lv_cons ?_ ?_)) (sync_spec _ _ s.1 s.2 rfl rfl (by omega) (by omega) hg.ok) rfl rfl) ?_
      refine any_c (_, none) (fun τ => op_callH inferInstance (by repeat' (first | exact argsLv_nil | refine argsLv_cons ?_ ?_ | exact Lv.v | exact Lv.sl | exact Lv.fp | exact Lv.nil | refine Lv.agg rfl ?_ | exact lv_nil | refine lv_cons ?_ ?_)) (same_yes s.1.length 0 (app s.1 s.2) [] hA rfl (by omega) (by omega)) rfl rfl) ?_
      refine any_c (_, none) (fun τ => op_mv _ (rfl : _ = AV.v (.bool _))) ?_
      refine any_cy (_, none) rfl (fun τ => rfl) (fun τ => op_callH inferInstance (by repeat' (first | exact argsLv_nil | refine argsLv_cons ?_ ?_ | exact Lv.v | exact Lv.sl | exact Lv.fp | exact Lv.nil | refine Lv.agg rfl ?_ | exact lv_nil | refine lv_cons ?_ ?_)) (lives_spec) rfl rfl) ?_
      refine any_c (_, none) (fun τ => op_pick _ _ _ rfl (rfl : _ = AV.v (.bool _))) ?_
      refine any_end ⟨rfl, ?_⟩
      simp only [List.drop_succ_cons, List.drop_zero, List.drop_nil]
      refine DL_c (op_as _ (rfl : _ = AV.v (.bool _))) ?_
      refine DL_nil (hK18 _ ?_)
      clear hK18; try clear K18
      refine D_ret ?_
      exact ret1 (.inr rfl) rfl (.tmp (rfl : _ = AV.v (.bool true))) (Le.out [] [] .v rfl rfl rfl trivial trivial)
end Go.Proofs.Ytphlaojoehmhaaa
