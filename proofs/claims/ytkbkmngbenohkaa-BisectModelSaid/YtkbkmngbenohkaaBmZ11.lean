/- Part 11 of the texts that the walk leans on: the machine, the walks, the plain laws. -/
import Derived.Lib.SliceRun
import Derived.Test.YtkbkmngbenohkaaBmZ10
set_option linter.unusedSimpArgs false
set_option linter.unusedVariables false
namespace Go.Proofs.Ytkbkmngbenohkaa
open Go.RowKit

theorem index_spec (n : Nat) (l : List Int) (x : Int) (hn : l.length = n) (h1 : n ≤ 4611686018427387904) :
    Spec Try.prog 151 (inSt [.sl n (isl l), .v (.int .i64 x)] []) (outSt (.v (.int .i64 (firstI (fun y => decide (x = y)) l))) []) := by
  refine Spec.ofN Try.func151 rfl Try.ntmps151 rfl ?_
  refine D_seq fun K1 hK1 => ?_
  refine D_region ?_
  refine DL_c (asI rfl) ?_
  refine DL_nil (hK1 _ ?_)
  clear hK1; try clear K1
  refine D_seq fun K2 hK2 => ?_
  refine D_seq fun K3 hK3 => ?_
  refine D_region ?_
  refine DL_c (mvS rfl) ?_
  refine DL_c (op_lenS _ inferInstance rfl) ?_
  refine DL_c (mvI rfl) ?_
  refine DL_nil (hK3 _ ?_)
  clear hK3; try clear K3
  refine D_block ?_
  refine D_loopL (α := Nat) (fun i => i ≤ n ∧ ∀ j, j < i → decide (x = l.getD j 0) = false) 19 [(0, _), (1, _), (7, _)] [] (fun i => [(8, .v (.int .i64 (i : Int)))]) (fun i => []) [] [] (fun i => n - i) 0 ?_ (by
    refine Le.mkJ [] [] rfl ?_ ?_ trivial trivial ?_
    · exact ⟨(iS rfl), (iV rfl), (iV rfl), (lvI (by rfl)), trivial⟩
    · exact trivial
    · kernel_rfl) ?_
  · exact ⟨by omega, fun j hj => by omega⟩
  intro i hi
  obtain ⟨hi, hno⟩ := hi
  refine D_seq fun K4 hK4 => ?_
  refine D_region ?_
  refine DL_c (op_lss _ _ rfl rfl rfl) ?_
  refine DL_nil (hK4 _ ?_)
  clear hK4; try clear K4
  refine D_seq fun K5 hK5 => ?_
  refine D_splitC rfl (fun hc9 => ?_) (fun hc9 => ?_)
  · skip
    refine D_skip (hK5 _ ?_)
    clear hK5; try clear K5
    refine D_seq fun K6 hK6 => ?_
    refine D_block ?_
    refine D_seq fun K7 hK7 => ?_
    refine D_region ?_
    refine DL_c (mvI rfl) ?_
    refine DL_c (asI rfl) ?_
    refine DL_nil (hK7 _ ?_)
    clear hK7; try clear K7
    refine D_seq fun K8 hK8 => ?_
    refine D_region ?_
    refine DL_c (mvI rfl) ?_
    refine DL_c (mvS rfl) ?_
    refine DL_c (mvI rfl) ?_
    refine DL_c (op_ixS _ _ inferInstance rfl rfl _ rfl (by omega) (by (simp only [isl_len, bsl_len, psl_len, mrows_len, nsl_len, ws_len, List.length_map, ul_len, psl_len, isl_len, nrows_len, prL_len, blR_len, stK_len, inh1_len, st0_len, status32_len]; omega)) (by exact Nat.mul_one _)) ?_
    refine DL_c (op_ldF _ inferInstance rfl (by exact isl_get _ _ (by omega)) rfl) ?_
    refine DL_c (op_eql _ _ rfl rfl rfl) ?_
    refine DL_nil (hK8 _ ?_)
    clear hK8; try clear K8
    refine D_splitC rfl (fun hc16 => ?_) (fun hc16 => ?_)
    · skip
      refine D_seq fun K9 hK9 => ?_
      refine D_region ?_
      refine DL_c (mvI rfl) ?_
      refine DL_c (asI rfl) ?_
      refine DL_nil (hK9 _ ?_)
      clear hK9; try clear K9
      refine D_ret ?_
      refine ret1 (.inr rfl) rfl (.tmp (rfl : _ = AV.v (.int _ _))) (Le.out [] [] (lvI ?_) rfl rfl rfl trivial trivial)
      exact firstI_at (p := fun y => decide (x = y)) (by omega) hno (decide_eq_true hc16)
    · skip
      refine D_skip (hK6 _ ?_)
      clear hK6; try clear K6
      refine D_region ?_
      refine DL_c (op_add _ _ rfl rfl (i64w (by omega))) ?_
      refine DL_c (mvI rfl) ?_
      refine DL_nil ?_
      refine ⟨i + 1, ?_, ?_, ?_⟩
      · exact ⟨by omega, all_succ hno (decide_eq_false hc16)⟩
      · skip
        refine Le.mkJ [] [] rfl ?_ ?_ trivial trivial ?_
        · exact ⟨(iS rfl), (iV rfl), (iV rfl), (lvI (by rfl)), trivial⟩
        · exact trivial
        · kernel_rfl
      · omega
  · skip
    refine D_exit ?_
    refine id (hK2 _ ?_)
    clear hK2; try clear K2
    refine D_seq fun K10 hK10 => ?_
    refine D_region ?_
    refine DL_c (asI rfl) ?_
    refine DL_nil (hK10 _ ?_)
    clear hK10; try clear K10
    refine D_ret ?_
    refine ret1 (.inr rfl) rfl (.tmp (rfl : _ = AV.v (.int _ _))) (Le.out [] [] (lvI ?_) rfl rfl rfl trivial trivial)
    exact firstI_none (p := fun y => decide (x = y)) fun j hj => hno j (by omega)
theorem contains_spec (n : Nat) (l : List Int) (x : Int) (hn : l.length = n) (h1 : n ≤ 4611686018427387904) :
    Spec Try.prog 139 (inSt [.sl n (isl l), .v (.int .i64 x)] []) (outSt (.v (.bool (decide (x ∈ l)))) []) := by
  refine Spec.ofN Try.func139 rfl Try.ntmps139 rfl ?_
  refine D_seq fun K1 hK1 => ?_
  refine D_region ?_
  refine DL_c (asB rfl) ?_
  refine DL_nil (hK1 _ ?_)
  clear hK1; try clear K1
  refine D_seq fun K2 hK2 => ?_
  refine D_region ?_
  refine DL_c (mvS rfl) ?_
  refine DL_c (mvI rfl) ?_
  refine DL_c (op_callH inferInstance (by repeat' (first | exact argsLv_nil | refine argsLv_cons ?_ ?_ | exact Lv.v | exact Lv.sl)) (index_spec n l x hn h1) rfl rfl) ?_
  refine DL_c (op_geq _ _ rfl rfl rfl) ?_
  refine DL_c (asB rfl) ?_
  refine DL_nil (hK2 _ ?_)
  clear hK2; try clear K2
  refine D_ret ?_
  refine ret1 (.inr rfl) rfl (.tmp (rfl : _ = AV.v (.bool _))) (Le.out [] [] (lvB ?_) rfl rfl rfl trivial trivial)
  rw [firstI_any, Bool.eq_iff_iff]; simp
def anR (n : Nat) (A : List Nat) : Rl := fun a v => decide (a ∈ wat n A (v : Int))
abbrev sP (n : Nat) (P A : List Nat) (h : Nat) (sc : List Nat) : List PV := [.ptr 0 (gra n P A), .v (.int .i64 (h : Int)), .sl sc.length (nsl sc)]
theorem anc_spec (n : Nat) (P A : List Nat) (hA : A.length = n) (hn : n ≤ 64) (hw : ∀ v, A.getD v 0 < 18446744073709551616) (h : Nat) (sc : List Nat) (a v : Nat) :
    Spec Try.prog 128 (inSt [.fp 0 (sP n P A h sc), .v (.int .i64 (a : Int)), .v (.int .i64 (v : Int))] []) (outSt (.v (.bool (anR n A a v))) []) := by
  have hanc := ancestors_spec n P A hA hn hw (v : Int)
  have hwl := wat_len (n := n) A (v : Int)
  have hct := contains_spec (wat n A (v : Int)).length ((wat n A (v : Int)).map fun (x : Nat) => (x : Int)) (a : Int) (by simp) (by omega)
  have e1 : decide ((a : Int) ∈ (wat n A (v : Int)).map fun (x : Nat) => (x : Int)) = anR n A a v := by
    unfold anR
    rw [Bool.eq_iff_iff, decide_eq_true_eq, decide_eq_true_eq, List.mem_map]
    exact ⟨fun ⟨y, h1, h2⟩ => by have : y = a := by omega
                                 exact this ▸ h1, fun h => ⟨a, h, rfl⟩⟩
  rw [e1] at hct
  refine Spec.ofN Try.func128 rfl Try.ntmps128 rfl ?_
  refine D_seq fun K1 hK1 => ?_
  refine D_region ?_
  refine DL_c (asB rfl) ?_
  refine DL_nil (hK1 _ ?_)
  clear hK1; try clear K1
  refine D_seq fun K2 hK2 => ?_
  refine D_region ?_
  refine DL_c (op_mv _ (rfl : _ = AV.fp _ _)) ?_
  refine DL_c (op_nilc _ rfl) ?_
  refine DL_c (op_fldF _ inferInstance rfl rfl) ?_
  refine DL_c (op_ldF _ inferInstance rfl (rfl : _ = some (PV.ptr 0 (gra n P A))) rfl) ?_
  refine DL_c (mvI rfl) ?_
  refine DL_c (op_callH inferInstance (by repeat' (first | exact argsLv_nil | refine argsLv_cons ?_ ?_ | exact Lv.v | exact Lv.fp)) (hanc) rfl rfl) ?_
  refine DL_c (mvI rfl) ?_
  refine DL_c (op_callH inferInstance (by repeat' (first | exact argsLv_nil | refine argsLv_cons ?_ ?_ | exact Lv.v | exact Lv.sl)) (hct) rfl rfl) ?_
  refine DL_c (asB rfl) ?_
  refine DL_nil (hK2 _ ?_)
  clear hK2; try clear K2
  refine D_ret ?_
  refine ret1 (.inr rfl) rfl (.tmp (rfl : _ = AV.v (.bool _))) (Le.out [] [] (lvB ?_) rfl rfl rfl trivial trivial)
  rfl
theorem choose_spec (n : Nat) (P A : List Nat) (hA : A.length = n) (hn : n ≤ 64) (hw : ∀ v, A.getD v 0 < 18446744073709551616) (h : Nat) (sc : List Nat) (m : Nat) (l : List Nat) (hm : l.length = m) (h1 : m ≤ 1000) :
    Spec Try.prog 109 (inSt [.fp 0 (sP n P A h sc), .sl m (nsl l)] []) (outSt (.v (.int .i64 (chs (anR n A) l))) []) := by
  have ha := fun a v => anc_spec n P A hA hn hw h sc a v
  have hbd := fun k hk => chsK_bd (R := anR n A) (l := l) k hk
  generalize anR n A = R at *
  refine Spec.ofN Try.func109 rfl Try.ntmps109 rfl ?_
  refine D_seq fun K1 hK1 => ?_
  refine D_region ?_
  refine DL_c (asI rfl) ?_
  refine DL_nil (hK1 _ ?_)
  clear hK1; try clear K1
  refine D_seq fun K2 hK2 => ?_
  refine D_region ?_
  refine DL_c (asI rfl) ?_
  refine DL_c (asI rfl) ?_
  refine DL_nil (hK2 _ ?_)
  clear hK2; try clear K2
  refine D_seq fun K3 hK3 => ?_
  refine D_seq fun K4 hK4 => ?_
  refine D_region ?_
  refine DL_c (mvS rfl) ?_
  refine DL_c (op_lenS _ inferInstance rfl) ?_
  refine DL_c (mvI rfl) ?_
  refine DL_nil (hK4 _ ?_)
  clear hK4; try clear K4
  refine D_block ?_
  refine D_loopL (α := Nat) (fun k => k ≤ m) 49 [(0, _), (1, _), (14, _), (15, _)] [] (fun k => [(16, .v (.int .i64 (k : Int))), (5, .v (.int .i64 (chsK R l k).1)), (6, .v (.int .i64 (chsK R l k).2))]) (fun k => []) [] [] (fun k => m - k) 0 ?_ (by
    refine Le.mkJ [] [] rfl ?_ ?_ trivial trivial ?_
    · exact ⟨(iF rfl), (iS rfl), (iS rfl), (iV rfl), (lvI (by rfl)), (lvI (by rfl)), (lvI (by rfl)), trivial⟩
    · exact trivial
    · kernel_rfl) ?_
  · omega
  intro k hk
  have hb := hbd k (by omega)
  refine D_seq fun K5 hK5 => ?_
  refine D_region ?_
  refine DL_c (op_lss _ _ rfl rfl rfl) ?_
  refine DL_nil (hK5 _ ?_)
  clear hK5; try clear K5
  refine D_seq fun K6 hK6 => ?_
  refine D_splitC rfl (fun hc17 => ?_) (fun hc17 => ?_)
  · skip
    have hsu := chsK_succ (R := R) (l := l) (k := k) (by omega)
    obtain ⟨v, hv⟩ : ∃ v, v = l.getD k 0 := ⟨_, rfl⟩
    rw [← hv] at hsu
    refine D_skip (hK6 _ ?_)
    clear hK6; try clear K6
    refine D_seq fun K7 hK7 => ?_
    refine D_block ?_
    refine D_seq fun K8 hK8 => ?_
    refine D_region ?_
    refine DL_c (op_ixS _ _ inferInstance rfl rfl _ rfl (by omega) (by (simp only [isl_len, bsl_len, psl_len, mrows_len, nsl_len, ws_len, List.length_map, ul_len, psl_len, isl_len, nrows_len, prL_len, blR_len, stK_len, inh1_len, st0_len, status32_len]; omega)) (by exact Nat.mul_one _)) ?_
    refine DL_c (op_ldF _ inferInstance rfl (by exact (nsl_get _ _ (by omega)).trans (by rw [← hv])) rfl) ?_
    refine DL_c (asI rfl) ?_
    refine DL_nil (hK8 _ ?_)
    clear hK8; try clear K8
    refine D_seq fun K9 hK9 => ?_
    refine D_region ?_
    refine DL_c (asI rfl) ?_
    refine DL_c (asI rfl) ?_
    refine DL_nil (hK9 _ ?_)
    clear hK9; try clear K9
    refine D_seq fun K10 hK10 => ?_
    refine D_seq fun K11 hK11 => ?_
    refine D_region ?_
    refine DL_c (mvS rfl) ?_
    refine DL_c (op_lenS _ inferInstance rfl) ?_
    refine DL_c (mvI rfl) ?_
    refine DL_nil (hK11 _ ?_)
    clear hK11; try clear K11
    refine D_block ?_
    refine D_loopL (α := Nat) (fun j => j ≤ m) 49 [(0, _), (1, _), (5, _), (6, _), (8, _), (14, _), (15, _), (16, _), (20, _), (21, _)] [] (fun j => [(22, .v (.int .i64 (j : Int))), (9, .v (.int .i64 (((l.take j).countP fun x => R x v : Nat) : Int))), (10, .v (.int .i64 (((l.take j).countP fun x => R v x : Nat) : Int)))]) (fun j => []) [] [] (fun j => m - j) 0 ?_ (by
      refine Le.mkJ [] [] rfl ?_ ?_ trivial trivial ?_
      · exact ⟨(iF rfl), (iS rfl), (iV rfl), (iV rfl), (iV rfl), (iS rfl), (iV rfl), (iV rfl), (iS rfl), (iV rfl), (lvI (by rfl)), (lvI (by rfl)), (lvI (by rfl)), trivial⟩
      · exact trivial
      · kernel_rfl) ?_
    · omega
    intro j hj
    have hu1 := countP_le (p := fun x => R x v) l j
    have hd1 := countP_le (p := fun x => R v x) l j
    refine D_seq fun K12 hK12 => ?_
    refine D_region ?_
    refine DL_c (op_lss _ _ rfl rfl rfl) ?_
    refine DL_nil (hK12 _ ?_)
    clear hK12; try clear K12
    refine D_seq fun K13 hK13 => ?_
    refine D_splitC rfl (fun hc23 => ?_) (fun hc23 => ?_)
    · skip
      have hu2 := countP_take (p := fun x => R x v) (l := l) (k := j) (by omega)
      have hd2 := countP_take (p := fun x => R v x) (l := l) (k := j) (by omega)
      obtain ⟨x, hx⟩ : ∃ x, x = l.getD j 0 := ⟨_, rfl⟩
      rw [← hx] at hu2 hd2
      refine D_skip (hK13 _ ?_)
      clear hK13; try clear K13
      refine D_seq fun K14 hK14 => ?_
      refine D_block ?_
      refine D_seq fun K15 hK15 => ?_
      refine D_region ?_
      refine DL_c (op_ixS _ _ inferInstance rfl rfl _ rfl (by omega) (by (simp only [isl_len, bsl_len, psl_len, mrows_len, nsl_len, ws_len, List.length_map, ul_len, psl_len, isl_len, nrows_len, prL_len, blR_len, stK_len, inh1_len, st0_len, status32_len]; omega)) (by exact Nat.mul_one _)) ?_
      refine DL_c (op_ldF _ inferInstance rfl (by exact (nsl_get _ _ (by omega)).trans (by rw [← hx])) rfl) ?_
      refine DL_c (asI rfl) ?_
      refine DL_nil (hK15 _ ?_)
      clear hK15; try clear K15
      refine D_seq fun K16 hK16 => ?_
      refine D_seq fun K17 hK17 => ?_
      refine D_region ?_
      refine DL_c (op_mv _ (rfl : _ = AV.fp _ _)) ?_
      refine DL_c (mvI rfl) ?_
      refine DL_c (mvI rfl) ?_
      refine DL_c (op_callH inferInstance (by repeat' (first | exact argsLv_nil | refine argsLv_cons ?_ ?_ | exact Lv.v | exact Lv.fp)) (ha x v) rfl rfl) ?_
      refine DL_nil (hK17 _ ?_)
      clear hK17; try clear K17
      refine D_splitC rfl (fun hc29 => ?_) (fun hc29 => ?_)
      · skip
        rw [if_pos hc29] at hu2
        refine D_region ?_
        refine DL_c (mvI rfl) ?_
        refine DL_c (op_add _ _ rfl rfl (i64w (by omega))) ?_
        refine DL_c (asI rfl) ?_
        refine DL_nil (hK16 _ ?_)
        clear hK16; try clear K16
        refine D_seq fun K18 hK18 => ?_
        refine D_region ?_
        refine DL_c (op_mv _ (rfl : _ = AV.fp _ _)) ?_
        refine DL_c (mvI rfl) ?_
        refine DL_c (mvI rfl) ?_
        refine DL_c (op_callH inferInstance (by repeat' (first | exact argsLv_nil | refine argsLv_cons ?_ ?_ | exact Lv.v | exact Lv.fp)) (ha v x) rfl rfl) ?_
        refine DL_nil (hK18 _ ?_)
        clear hK18; try clear K18
        refine D_splitC rfl (fun hc35 => ?_) (fun hc35 => ?_)
        · skip
          rw [if_pos hc35] at hd2
          refine D_le (σ' := mkStI 49 [(0, _), (1, _), (5, _), (6, _), (8, _), (9, _), (10, _), (14, _), (15, _), (16, _), (20, _), (21, _), (22, _)] [] [] []) (by
            refine Le.mkJ [] [] rfl ?_ ?_ trivial trivial ?_
            · exact ⟨(iF rfl), (iS rfl), (iV rfl), (iV rfl), (iV rfl), (iV rfl), (iV rfl), (iS rfl), (iV rfl), (iV rfl), (iS rfl), (iV rfl), (iV rfl), trivial⟩
            · exact trivial
            · kernel_rfl) ?_
          refine D_region ?_
          refine DL_c (mvI rfl) ?_
          refine DL_c (op_add _ _ rfl rfl (i64w (by omega))) ?_
          refine DL_c (asI rfl) ?_
          refine DL_nil (hK14 _ ?_)
          clear hK14; try clear K14
          refine D_region ?_
          refine DL_c (op_add _ _ rfl rfl (i64w (by omega))) ?_
          refine DL_c (mvI rfl) ?_
          refine DL_nil ?_
          refine ⟨j + 1, ?_, ?_, ?_⟩
          · omega
          · skip
            refine Le.mkJ [] [] rfl ?_ ?_ trivial trivial ?_
            · exact ⟨(iF rfl), (iS rfl), (iV rfl), (iV rfl), (iV rfl), (iS rfl), (iV rfl), (iV rfl), (iS rfl), (iV rfl), (lvI (by rfl)), (lvI (by omega)), (lvI (by omega)), trivial⟩
            · exact trivial
            · kernel_rfl
          · omega
        · skip
          rw [if_neg (by simp [hc35])] at hd2
          refine D_skip (hK14 _ ?_)
          clear hK14; try clear K14
          refine D_le (σ' := mkStI 49 [(0, _), (1, _), (5, _), (6, _), (8, _), (9, _), (10, _), (14, _), (15, _), (16, _), (20, _), (21, _), (22, _)] [] [] []) (by
            refine Le.mkJ [] [] rfl ?_ ?_ trivial trivial ?_
            · exact ⟨(iF rfl), (iS rfl), (iV rfl), (iV rfl), (iV rfl), (iV rfl), (iV rfl), (iS rfl), (iV rfl), (iV rfl), (iS rfl), (iV rfl), (iV rfl), trivial⟩
            · exact trivial
            · kernel_rfl) ?_
          refine D_region ?_
          refine DL_c (op_add _ _ rfl rfl (i64w (by omega))) ?_
          refine DL_c (mvI rfl) ?_
          refine DL_nil ?_
          refine ⟨j + 1, ?_, ?_, ?_⟩
          · omega
          · skip
            refine Le.mkJ [] [] rfl ?_ ?_ trivial trivial ?_
            · exact ⟨(iF rfl), (iS rfl), (iV rfl), (iV rfl), (iV rfl), (iS rfl), (iV rfl), (iV rfl), (iS rfl), (iV rfl), (lvI (by rfl)), (lvI (by omega)), (lvI (by omega)), trivial⟩
            · exact trivial
            · kernel_rfl
          · omega
      · skip
        rw [if_neg (by simp [hc29])] at hu2
        refine D_skip (hK16 _ ?_)
        clear hK16; try clear K16
        refine D_seq fun K19 hK19 => ?_
        refine D_region ?_
        refine DL_c (op_mv _ (rfl : _ = AV.fp _ _)) ?_
        refine DL_c (mvI rfl) ?_
        refine DL_c (mvI rfl) ?_
        refine DL_c (op_callH inferInstance (by repeat' (first | exact argsLv_nil | refine argsLv_cons ?_ ?_ | exact Lv.v | exact Lv.fp)) (ha v x) rfl rfl) ?_
        refine DL_nil (hK19 _ ?_)
        clear hK19; try clear K19
        refine D_splitC rfl (fun hc35 => ?_) (fun hc35 => ?_)
        · skip
          rw [if_pos hc35] at hd2
          refine D_region ?_
          refine DL_c (mvI rfl) ?_
          refine DL_c (op_add _ _ rfl rfl (i64w (by omega))) ?_
          refine DL_c (asI rfl) ?_
          refine DL_nil (hK14 _ ?_)
          clear hK14; try clear K14
          refine D_le (σ' := mkStI 49 [(0, _), (1, _), (5, _), (6, _), (8, _), (9, _), (10, _), (14, _), (15, _), (16, _), (20, _), (21, _), (22, _)] [] [] []) (by
            refine Le.mkJ [] [] rfl ?_ ?_ trivial trivial ?_
            · exact ⟨(iF rfl), (iS rfl), (iV rfl), (iV rfl), (iV rfl), (iV rfl), (iV rfl), (iS rfl), (iV rfl), (iV rfl), (iS rfl), (iV rfl), (iV rfl), trivial⟩
            · exact trivial
            · kernel_rfl) ?_
          refine D_region ?_
          refine DL_c (op_add _ _ rfl rfl (i64w (by omega))) ?_
          refine DL_c (mvI rfl) ?_
          refine DL_nil ?_
          refine ⟨j + 1, ?_, ?_, ?_⟩
          · omega
          · skip
            refine Le.mkJ [] [] rfl ?_ ?_ trivial trivial ?_
            · exact ⟨(iF rfl), (iS rfl), (iV rfl), (iV rfl), (iV rfl), (iS rfl), (iV rfl), (iV rfl), (iS rfl), (iV rfl), (lvI (by rfl)), (lvI (by omega)), (lvI (by omega)), trivial⟩
            · exact trivial
            · kernel_rfl
          · omega
        · skip
          rw [if_neg (by simp [hc35])] at hd2
          refine D_skip (hK14 _ ?_)
          clear hK14; try clear K14
          refine D_region ?_
          refine DL_c (op_add _ _ rfl rfl (i64w (by omega))) ?_
          refine DL_c (mvI rfl) ?_
          refine DL_nil ?_
          refine ⟨j + 1, ?_, ?_, ?_⟩
          · omega
          · skip
            refine Le.mkJ [] [] rfl ?_ ?_ trivial trivial ?_
            · exact ⟨(iF rfl), (iS rfl), (iV rfl), (iV rfl), (iV rfl), (iS rfl), (iV rfl), (iV rfl), (iS rfl), (iV rfl), (lvI (by rfl)), (lvI (by omega)), (lvI (by omega)), trivial⟩
            · exact trivial
            · kernel_rfl
          · omega
    · skip
      have hju : (l.take j).countP (fun x => R x v) = upc R l v := by rw [List.take_of_length_le (by omega)]; rfl
      have hjd : (l.take j).countP (fun x => R v x) = dnc R l v := by rw [List.take_of_length_le (by omega)]; rfl
      rw [hju] at hu1 ⊢
      rw [hjd] at hd1 ⊢
      refine D_exit ?_
      refine id (hK10 _ ?_)
      clear hK10; try clear K10
      refine D_seq fun K20 hK20 => ?_
      refine D_region ?_
      refine DL_c (mvI rfl) ?_
      refine DL_c (mvI rfl) ?_
      refine DL_c (op_min _ _ rfl rfl (show min (upc R l v : Int) (dnc R l v : Int) = ((min (upc R l v) (dnc R l v) : Nat) : Int) by omega)) ?_
      refine DL_c (asI rfl) ?_
      refine DL_nil (hK20 _ ?_)
      clear hK20; try clear K20
      refine D_seq fun K21 hK21 => ?_
      refine D_region ?_
      refine DL_c (mvI rfl) ?_
      refine DL_c (mvI rfl) ?_
      refine DL_c (op_gtr _ _ rfl rfl rfl) ?_
      refine DL_nil (hK21 _ ?_)
      clear hK21; try clear K21
      refine D_splitC rfl (fun hc44 => ?_) (fun hc44 => ?_)
      · skip
        have hs1 : chsK R l (k + 1) = ((v : Int), ((min (upc R l v) (dnc R l v) : Nat) : Int)) := hsu.trans (if_pos hc44)
        refine D_region ?_
        refine DL_c (mvI rfl) ?_
        refine DL_c (mvI rfl) ?_
        refine DL_c (asI rfl) ?_
        refine DL_c (asI rfl) ?_
        refine DL_nil (hK7 _ ?_)
        clear hK7; try clear K7
        refine D_region ?_
        refine DL_c (op_add _ _ rfl rfl (i64w (by omega))) ?_
        refine DL_c (mvI rfl) ?_
        refine DL_nil ?_
        refine ⟨k + 1, ?_, ?_, ?_⟩
        · omega
        · skip
          refine Le.mkJ [] [] rfl ?_ ?_ trivial trivial ?_
          · exact ⟨(iF rfl), (iS rfl), (iS rfl), (iV rfl), (lvI (by rfl)), (lvI (by ((rw [hs1])))), (lvI (by ((rw [hs1])))), trivial⟩
          · exact trivial
          · kernel_rfl
        · omega
      · skip
        have hs1 : chsK R l (k + 1) = chsK R l k := hsu.trans (if_neg (by omega))
        refine D_skip (hK7 _ ?_)
        clear hK7; try clear K7
        refine D_region ?_
        refine DL_c (op_add _ _ rfl rfl (i64w (by omega))) ?_
        refine DL_c (mvI rfl) ?_
        refine DL_nil ?_
        refine ⟨k + 1, ?_, ?_, ?_⟩
        · omega
        · skip
          refine Le.mkJ [] [] rfl ?_ ?_ trivial trivial ?_
          · exact ⟨(iF rfl), (iS rfl), (iS rfl), (iV rfl), (lvI (by rfl)), (lvI (by ((rw [hs1])))), (lvI (by ((rw [hs1])))), trivial⟩
          · exact trivial
          · kernel_rfl
        · omega
  · skip
    refine D_exit ?_
    refine id (hK3 _ ?_)
    clear hK3; try clear K3
    refine D_seq fun K22 hK22 => ?_
    refine D_region ?_
    refine DL_c (mvI rfl) ?_
    refine DL_c (asI rfl) ?_
    refine DL_nil (hK22 _ ?_)
    clear hK22; try clear K22
    refine D_ret ?_
    refine ret1 (.inr rfl) rfl (.tmp (rfl : _ = AV.v (.int _ _))) (Le.out [] [] (lvI ?_) rfl rfl rfl trivial trivial)
    rw [show k = l.length by omega]; rfl
end Go.Proofs.Ytkbkmngbenohkaa

namespace Go.Proofs.Ytkbkmngbenohkaa
open Go.RowKit

abbrev SSL (n : Nat) (P A : List Nat) (h : Nat) (sc : List Nat) (st : List Int) (ord : List Nat) : List (Oid × Cells) :=
  [((0, 9), .box 136 [.fp 0 (gra n P A), .v (.int .i64 (h : Int)), .sl sc.length (nsl sc), .fn (.func 73) [.ptr (3, 9) 0] [], .mp (1, 9), .ref (2, 9) 0 ord.length]),
   ((1, 9), .mp (ment (mmap st ord)) (mmap st ord).length), ((2, 9), .row 3 1 (nsl ord)), ((3, 9), .box 93 [.sl st.length (isl st), .ref (4, 9) 0 ord.length]), ((4, 9), .row 3 1 (nsl ord))]
abbrev I5 : List Oid := [(0, 9), (1, 9), (2, 9), (3, 9), (4, 9)]
def cl1 (st : List Int) (ord : List Nat) (s : Int) (x : Array Nat) : List Nat := (x.toList.map fun i => ord.getD i 0).filter fun v => decide (nst st v = s)
theorem cl1_yes {st : List Int} {ord : List Nat} {s : Int} {x : Array Nat} {i v : Nat} (h : ord[i]? = some v) (hs : nst st v = s) : cl1 st ord s (x.push i) = cl1 st ord s x ++ [v] := by
  simp [cl1, List.getD_eq_getElem?_getD, h, hs]
theorem cl1_no {st : List Int} {ord : List Nat} {s : Int} {x : Array Nat} {i v : Nat} (h : ord[i]? = some v) (hs : ¬ nst st v = s) : cl1 st ord s (x.push i) = cl1 st ord s x := by
  simp [cl1, List.getD_eq_getElem?_getD, h, hs]
theorem cl1_len (st : List Int) (ord : List Nat) (s : Int) (x : Array Nat) : (cl1 st ord s x).length ≤ x.size := by
  have := List.length_filter_le (fun v => decide (nst st v = s)) (x.toList.map fun i => ord.getD i 0)
  simpa [cl1] using this
theorem seen_push {m : Nat} {x : Array Nat} {i : Nat} (h : x.toList.Nodup ∧ ∀ i ∈ x.toList, i < m) (hi : i < m) (hn : i ∉ x) : (x.push i).toList.Nodup ∧ ∀ j ∈ (x.push i).toList, j < m := by
  rw [Array.toList_push]
  have hn' : i ∉ x.toList := by simpa using hn
  refine ⟨List.nodup_append.2 ⟨h.1, by simp, fun a ha b hb e => by simp at hb; subst hb; subst e; exact hn' ha⟩, fun j hj => ?_⟩
  rcases List.mem_append.1 hj with hj | hj
  · exact h.2 j hj
  · simp at hj; omega
theorem seen_le {m : Nat} {x : Array Nat} (h : x.toList.Nodup ∧ ∀ i ∈ x.toList, i < m) : x.size ≤ m := by
  have := nodup_le m x.toList h.1 h.2
  simpa using this
set_option maxHeartbeats 1000000 in
theorem tested_spec (n : Nat) (P A : List Nat) (hn : n ≤ 64) (h : Nat) (sc : List Nat) (st : List Int) (ord : List Nat) (ho : ok1 n ord) (s : Int) :
    Spec Try.prog 125 (inStI [.ptr (0, 9) 0, .v (.int .i64 s)] (SSL n P A h sc st ord)) (outStI (.ref (0, 8) 0 (tst n ord st s).length) (SSL n P A h sc st ord ++ [((0, 8), .row 3 1 (nsl (tst n ord st s)))]) I5 I5) := by
  have hol := ho.len
  refine Spec.ofNI Try.func125 rfl Try.ntmps125 rfl ?_
  refine D_seq fun K1 hK1 => ?_
  refine D_region ?_
  refine DL_c (op_as _ (rfl : _ = AV.v (.slice _ _ _))) ?_
  refine DL_nil (hK1 _ ?_)
  clear hK1; try clear K1
  refine D_seq fun K2 hK2 => ?_
  refine D_region ?_
  refine DL_c (op_asN (5, 0) _ 3 1 rfl rfl) ?_
  refine DL_nil (hK2 _ ?_)
  clear hK2; try clear K2
  refine D_seq fun K3 hK3 => ?_
  refine D_seq fun K4 hK4 => ?_
  refine D_region ?_
  refine DL_c (op_mv _ (rfl : _ = AV.ptr _ _)) ?_
  refine DL_c (op_nilp _ rfl rfl) ?_
  refine DL_c (op_fldP _ inferInstance rfl rfl rfl) ?_
  refine DL_c (op_ldB _ inferInstance rfl rfl (rfl : _ = some (AV.mp _))) ?_
  refine DL_c (op_rangeM (12, 0) _ Try.underlying134 rfl rfl rfl) ?_
  refine DL_nil (hK4 _ ?_)
  clear hK4; try clear K4
  refine D_block ?_
  refine D_loopL (α := Array Nat) (fun x => x.toList.Nodup ∧ ∀ i ∈ x.toList, i < ord.length) 28 [(1, _), (12, _)] [((0, 9), _), ((1, 9), _), ((2, 9), _), ((3, 9), _), ((4, 9), _)] (fun x => [(5, .ref (5, 0) 0 (cl1 st ord s x).length)]) (fun x => [((5, 0), .row 3 1 (nsl (cl1 st ord s x))), ((12, 0), .it (1, 9) (mmap st ord).length x (mmap st ord).length)]) [(0, 9), (1, 9), (2, 9), (3, 9), (4, 9)] [(0, 9), (1, 9), (2, 9), (3, 9), (4, 9)] (fun x => ord.length - x.size) #[] ?_ (by
    refine Le.mkJ [] [] rfl ?_ ?_ trivial ⟨rfl, rfl, rfl, rfl, rfl, trivial⟩ ?_
    · exact ⟨(iV rfl), (iP rfl), (lvRr rfl (by rfl)), trivial⟩
    · exact ⟨(obE rfl rfl rfl), (obE rfl rfl rfl), (obE rfl rfl rfl), (obE rfl rfl rfl), (obE rfl rfl rfl), (obR rfl rfl rfl (by rfl)), (obT rfl rfl rfl), trivial⟩
    · kernel_rfl) ?_
  · exact ⟨by simp, by simp⟩
  intro x hx
  have hxs := seen_le hx
  have hcl := cl1_len st ord s x
  refine D_seq fun K5 hK5 => ?_
  refine D_region ?_
  refine DL_cN (op_nextM _ rfl rfl rfl (by rfl) (by exact Nat.le_refl _)) ?_
  rintro _ (⟨hn13, rfl⟩ | ⟨ix13, pp13, hp13, hs13, rfl⟩)
  · skip
    have hall : ∀ i, i < ord.length → i ∈ x.toList := fun i hi => by have := hn13 i (by simpa using hi); simpa using this
    have hfin := tst_srt (st := st) (s := s) ho hx.1 hall hx.2
    have hfl : (cl1 st ord s x).length = (tst n ord st s).length := by have := congrArg List.length hfin; simpa [cl1] using this
    refine DL_c (op_ext _ rfl (rfl : _ = some (AV.v (.bool _)))) ?_
    refine DL_nil (hK5 _ ?_)
    clear hK5; try clear K5
    refine D_seq fun K6 hK6 => ?_
    refine D_cF rfl rfl ?_
    refine D_exit ?_
    refine id (hK3 _ ?_)
    clear hK3; try clear K3
    refine D_seq fun K7 hK7 => ?_
    refine D_region ?_
    refine DL_c (mvR rfl) ?_
    refine DL_c (op_callR inferInstance [((0, 9), (5, 0))] ?_ (sortG_spec (cl1 st ord s x).length (by omega) ((cl1 st ord s x).map fun (v : Nat) => (v : Int)) (by simp)) ⟨⟨rfl, ⟨_, rfl, .rowE rfl⟩, rfl⟩, trivial⟩ ⟨rfl, trivial⟩ (by kernel_rfl)) ?_
    · repeat' (first | exact argsR_nil | refine argsR_cons ?_ ?_ | exact lvRr rfl rfl)
    refine DL_nil (hK7 _ ?_)
    clear hK7; try clear K7
    refine D_seq fun K8 hK8 => ?_
    refine D_region ?_
    refine DL_c (mvR rfl) ?_
    refine DL_c (asR rfl) ?_
    refine DL_nil (hK8 _ ?_)
    clear hK8; try clear K8
    refine D_ret ?_
    exact ret1 (.inr rfl) rfl (.tmp (rfl : _ = AV.ref _ _ _)) (Le.outI [((0, 8), (5, 0))] [] (lvRr rfl hfl.symm) rfl rfl rfl trivial ⟨⟨rfl, ⟨_, rfl, lvO_k I5 rfl rfl⟩, rfl⟩, ⟨rfl, ⟨_, rfl, lvO_k I5 rfl rfl⟩, rfl⟩, ⟨rfl, ⟨_, rfl, lvO_k I5 rfl rfl⟩, rfl⟩, ⟨rfl, ⟨_, rfl, lvO_k I5 rfl rfl⟩, rfl⟩, ⟨rfl, ⟨_, rfl, lvO_k I5 rfl rfl⟩, rfl⟩, ⟨rfl, ⟨_, rfl, .rowE hfin⟩, rfl⟩, trivial⟩ ⟨rfl, rfl, rfl, rfl, rfl, trivial⟩ rfl)
  · skip
    obtain ⟨v13, hv13, rfl⟩ := mmap_get hp13
    have hil : ix13 < ord.length := (List.getElem?_eq_some_iff.1 hv13).1
    have hx2 := seen_push hx hil hs13
    have hxs2 := seen_le hx2
    rw [Array.size_push] at hxs2
    refine DL_c (op_ext _ rfl (rfl : _ = some (AV.v (.bool _)))) ?_
    refine DL_nil (hK5 _ ?_)
    clear hK5; try clear K5
    refine D_seq fun K9 hK9 => ?_
    refine D_cT rfl rfl ?_
    refine D_skip (hK9 _ ?_)
    clear hK9; try clear K9
    refine D_block ?_
    refine D_seq fun K10 hK10 => ?_
    refine D_region ?_
    refine DL_c (op_entryM _ rfl rfl rfl hp13) ?_
    refine DL_c (op_ext _ rfl (rfl : _ = some (AV.v (.int _ _)))) ?_
    refine DL_c (op_ext _ rfl (rfl : _ = some (AV.v (.int _ _)))) ?_
    refine DL_c (asI rfl) ?_
    refine DL_c (asI rfl) ?_
    refine DL_nil (hK10 _ ?_)
    clear hK10; try clear K10
    refine D_seq fun K11 hK11 => ?_
    refine D_region ?_
    refine DL_c (mvI rfl) ?_
    refine DL_c (mvI rfl) ?_
    refine DL_c (op_eql _ _ rfl rfl rfl) ?_
    refine DL_nil (hK11 _ ?_)
    clear hK11; try clear K11
    refine D_splitC rfl (fun hc20 => ?_) (fun hc20 => ?_)
    · skip
      have hy := cl1_yes (s := s) (x := x) hv13 hc20
      refine D_region ?_
      refine DL_c (mvR rfl) ?_
      refine DL_c (mvI rfl) ?_
      refine DL_c (op_bsF _ _ inferInstance rfl (by rfl) (by simp <;> rfl) (by decide) rfl) ?_
      refine DL_c (op_ap (24, 0) _ _ inferInstance rfl rfl (by (simp only [isl_len, bsl_len, psl_len, mrows_len, nsl_len, ws_len, List.length_map, ul_len, psl_len, isl_len, nrows_len, mmap_len]; omega)) (by (refine .sl ?_; (simp [isl]; done))) (by omega) rfl (rfl) (rfl)) ?_
      refine DL_c (asR rfl) ?_
      refine DL_nil ?_
      refine ⟨x.push ix13, ?_, ?_, ?_⟩
      · exact hx2
      · skip
        refine Le.mkJ [((5, 0), (24, 0))] [] rfl ?_ ?_ trivial ⟨rfl, rfl, rfl, rfl, rfl, trivial⟩ ?_
        · exact ⟨(by repeat' (exact Lv.v)), (lvPr (id := (12, 0)) rfl), (lvRr rfl (by ((rw [hy, List.length_append]; rfl)))), trivial⟩
        · exact ⟨(obB rfl rfl rfl rfl (by repeat' (first | exact Lv.v | exact Lv.sl | exact Lv.fp | exact lvRr (id := (2, 9)) rfl rfl | exact lvPr (id := (3, 9)) rfl | exact Lv.mp | refine Lv.fn rfl ?_ rfl ?_ | exact lv_nil | refine lv_cons ?_ ?_))), (by exact obM rfl rfl rfl rfl rfl), (by exact obR rfl rfl rfl rfl), (obB rfl rfl rfl rfl (by repeat' (first | exact Lv.sl | exact lvRr (id := (4, 9)) rfl rfl | exact lv_nil | refine lv_cons ?_ ?_))), (by exact obR rfl rfl rfl rfl), (obR rfl rfl rfl (by ((rw [hy, ← nsl_append]; rfl)))), (obT rfl rfl rfl), trivial⟩
        · kernel_rfl
      · rw [Array.size_push]; omega
    · skip
      have hy := cl1_no (s := s) (x := x) hv13 hc20
      refine D_skip ?_
      refine ⟨x.push ix13, ?_, ?_, ?_⟩
      · exact hx2
      · skip
        refine Le.mkJ [] [] rfl ?_ ?_ trivial ⟨rfl, rfl, rfl, rfl, rfl, trivial⟩ ?_
        · exact ⟨(iV rfl), (iP rfl), (lvRr rfl (by ((rw [hy]; done)))), trivial⟩
        · exact ⟨(obE rfl rfl rfl), (obE rfl rfl rfl), (obE rfl rfl rfl), (obE rfl rfl rfl), (obE rfl rfl rfl), (obR rfl rfl rfl (by ((rw [hy]; done)))), (obT rfl rfl rfl), trivial⟩
        · kernel_rfl
      · rw [Array.size_push]; omega
theorem lnS {σ : St} {n : Nat} {P A : List Nat} {h : Nat} {sc : List Nat} {id : Oid} {c3 c4 c5 : AV} (hid : σ.ob id = .obj (.box 136 [.fp 0 (gra n P A), .v (.int .i64 (h : Int)), .sl sc.length (nsl sc), c3, c4, c5])) : Ln σ (.ptr 0 (sP n P A h sc)) (.ptr id 0) :=
  .ptr hid (Nat.le_of_ble_eq_true rfl) (ln_cons .fp (ln_cons (.v rfl) (ln_cons .sl ln_nil)))
set_option maxHeartbeats 1000000 in
theorem con_spec (n : Nat) (P A : List Nat) (hA : A.length = n) (hn : n ≤ 64) (hw : ∀ v, A.getD v 0 < 18446744073709551616) (h : Nat) (sc : List Nat) (st : List Int) (ord : List Nat) (ho : ok1 n ord) :
    Spec Try.prog 110 (inStI [.ptr (0, 9) 0] (SSL n P A h sc st ord)) (outStI (.v (.bool (con (anR n A) n ord st))) (SSL n P A h sc st ord) I5 I5) := by
  have ha := fun a v => anc_spec n P A hA hn hw h sc a v
  have ht := fun s => tested_spec n P A hn h sc st ord ho s
  have hG := tst_len n ord st 0
  have hB := tst_len n ord st 1
  unfold con
  generalize anR n A = R at *
  have h0 := ht 0
  have h1 := ht 1
  generalize tst n ord st 0 = G at h0 hG ⊢
  generalize tst n ord st 1 = B at h1 hB ⊢
  refine Spec.ofNI Try.func110 rfl Try.ntmps110 rfl ?_
  refine D_seq fun K1 hK1 => ?_
  refine D_region ?_
  refine DL_c (asB rfl) ?_
  refine DL_nil (hK1 _ ?_)
  clear hK1; try clear K1
  refine D_seq fun K2 hK2 => ?_
  refine D_seq fun K3 hK3 => ?_
  refine D_region ?_
  refine DL_c (op_mv _ (rfl : _ = AV.ptr _ _)) ?_
  refine DL_c (op_callK inferInstance (60, 0) _ _ (by repeat' (first | exact argsR_nil | refine argsR_cons ?_ ?_ | exact Lv.v | exact lvPr rfl)) (h0) ⟨rfl, rfl, rfl, rfl, rfl, trivial⟩ rfl rfl rfl (by kernel_rfl) (by simp)) ?_
  refine DL_c (op_lenR _ inferInstance rfl rfl) ?_
  refine DL_c (mvI rfl) ?_
  refine DL_nil (hK3 _ ?_)
  clear hK3; try clear K3
  refine D_block ?_
  refine D_loopL (α := Nat) (fun i => i ≤ G.length ∧ ∀ j, j < i → (B.any fun b => R b (G.getD j 0)) = false) 27 [(0, _), (8, _), (9, _)] [((0, 9), _), ((1, 9), _), ((2, 9), _), ((60, 0), _), ((3, 9), _), ((4, 9), _)] (fun i => [(10, .v (.int .i64 (i : Int)))]) (fun i => []) [(0, 9), (1, 9), (2, 9), (3, 9), (4, 9)] [(0, 9), (1, 9), (2, 9), (3, 9), (4, 9)] (fun i => G.length - i) 0 ?_ (by
    refine Le.mkJ [] [] rfl ?_ ?_ trivial ⟨rfl, rfl, rfl, rfl, rfl, trivial⟩ ?_
    · exact ⟨(iP rfl), (iR rfl), (iV rfl), (lvI (by rfl)), trivial⟩
    · exact ⟨(obE rfl rfl rfl), (obE rfl rfl rfl), (obE rfl rfl rfl), (obE rfl rfl rfl), (obE rfl rfl rfl), (obE rfl rfl rfl), trivial⟩
    · kernel_rfl) ?_
  · exact ⟨Nat.zero_le _, fun j hj => by omega⟩
  intro i hi
  obtain ⟨hi, hno⟩ := hi
  refine D_seq fun K4 hK4 => ?_
  refine D_region ?_
  refine DL_c (op_lss _ _ rfl rfl rfl) ?_
  refine DL_nil (hK4 _ ?_)
  clear hK4; try clear K4
  refine D_seq fun K5 hK5 => ?_
  refine D_splitC rfl (fun hc11 => ?_) (fun hc11 => ?_)
  · skip
    obtain ⟨g, hg⟩ : ∃ g, g = G.getD i 0 := ⟨_, rfl⟩
    refine D_skip (hK5 _ ?_)
    clear hK5; try clear K5
    refine D_seq fun K6 hK6 => ?_
    refine D_block ?_
    refine D_seq fun K7 hK7 => ?_
    refine D_region ?_
    refine DL_c (op_ixR _ _ inferInstance rfl rfl rfl _ rfl (by omega) (by exact (Nat.zero_add _).trans (Nat.mul_one _))) ?_
    refine DL_c (op_ldR _ inferInstance rfl rfl (by exact (nsl_get _ _ (by omega)).trans (by rw [← hg])) rfl) ?_
    refine DL_c (asI rfl) ?_
    refine DL_nil (hK7 _ ?_)
    clear hK7; try clear K7
    refine D_seq fun K8 hK8 => ?_
    refine D_region ?_
    refine DL_c (op_mv _ (rfl : _ = AV.ptr _ _)) ?_
    refine DL_c (op_callK inferInstance (61, 0) _ _ (by repeat' (first | exact argsR_nil | refine argsR_cons ?_ ?_ | exact Lv.v | exact lvPr rfl)) (h1) ⟨rfl, rfl, rfl, rfl, rfl, trivial⟩ rfl rfl rfl (by kernel_rfl) (by simp)) ?_
    refine DL_c (op_lenR _ inferInstance rfl rfl) ?_
    refine DL_c (mvI rfl) ?_
    refine DL_nil (hK8 _ ?_)
    clear hK8; try clear K8
    refine D_block ?_
    refine D_loopL (α := Nat) (fun k => k ≤ B.length ∧ ∀ j, j < k → R (B.getD j 0) g = false) 27 [(0, _), (4, _), (8, _), (9, _), (10, _), (15, _), (16, _)] [((0, 9), _), ((1, 9), _), ((2, 9), _), ((60, 0), _), ((61, 0), _), ((3, 9), _), ((4, 9), _)] (fun k => [(17, .v (.int .i64 (k : Int)))]) (fun k => []) [(0, 9), (1, 9), (2, 9), (3, 9), (4, 9)] [(0, 9), (1, 9), (2, 9), (3, 9), (4, 9)] (fun k => B.length - k) 0 ?_ (by
      refine Le.mkJ [] [] rfl ?_ ?_ trivial ⟨rfl, rfl, rfl, rfl, rfl, trivial⟩ ?_
      · exact ⟨(iP rfl), (iV rfl), (iR rfl), (iV rfl), (iV rfl), (iR rfl), (iV rfl), (lvI (by rfl)), trivial⟩
      · exact ⟨(obE rfl rfl rfl), (obE rfl rfl rfl), (obE rfl rfl rfl), (obE rfl rfl rfl), (obE rfl rfl rfl), (obE rfl rfl rfl), (obE rfl rfl rfl), trivial⟩
      · kernel_rfl) ?_
    · exact ⟨Nat.zero_le _, fun j hj => by omega⟩
    intro k hk
    obtain ⟨hk, hnk⟩ := hk
    refine D_seq fun K9 hK9 => ?_
    refine D_region ?_
    refine DL_c (op_lss _ _ rfl rfl rfl) ?_
    refine DL_nil (hK9 _ ?_)
    clear hK9; try clear K9
    refine D_seq fun K10 hK10 => ?_
    refine D_splitC rfl (fun hc18 => ?_) (fun hc18 => ?_)
    · skip
      obtain ⟨b, hb⟩ : ∃ b, b = B.getD k 0 := ⟨_, rfl⟩
      refine D_skip (hK10 _ ?_)
      clear hK10; try clear K10
      refine D_seq fun K11 hK11 => ?_
      refine D_block ?_
      refine D_seq fun K12 hK12 => ?_
      refine D_region ?_
      refine DL_c (op_ixR _ _ inferInstance rfl rfl rfl _ rfl (by omega) (by exact (Nat.zero_add _).trans (Nat.mul_one _))) ?_
      refine DL_c (op_ldR _ inferInstance rfl rfl (by exact (nsl_get _ _ (by omega)).trans (by rw [← hb])) rfl) ?_
      refine DL_c (asI rfl) ?_
      refine DL_nil (hK12 _ ?_)
      clear hK12; try clear K12
      refine D_seq fun K13 hK13 => ?_
      refine D_region ?_
      refine DL_c (op_mv _ (rfl : _ = AV.ptr _ _)) ?_
      refine DL_c (mvI rfl) ?_
      refine DL_c (mvI rfl) ?_
      refine DL_c (op_callBD inferInstance (argsD_cons (argD (lnS rfl) rfl) (argsD_cons (.inl Lv.v) (argsD_cons (.inl Lv.v) argsD_nil))) (ha b g) rfl) ?_
      refine DL_nil (hK13 _ ?_)
      clear hK13; try clear K13
      refine D_splitC rfl (fun hc24 => ?_) (fun hc24 => ?_)
      · skip
        refine D_seq fun K14 hK14 => ?_
        refine D_region ?_
        refine DL_c (asB rfl) ?_
        refine DL_nil (hK14 _ ?_)
        clear hK14; try clear K14
        refine D_ret ?_
        have hbm : b ∈ B := hb ▸ getD_mem (by omega)
        have hgm : g ∈ G := hg ▸ getD_mem (by omega)
        exact ret1 (.inr rfl) rfl (.tmp (rfl : _ = AV.v (.bool _))) (Le.outI [] [] (lvB (by rw [List.any_eq_true]; exact ⟨g, hgm, List.any_eq_true.2 ⟨b, hbm, hc24⟩⟩)) rfl rfl rfl trivial ⟨⟨rfl, ⟨_, rfl, lvO_id _⟩, rfl⟩, ⟨rfl, ⟨_, rfl, lvO_id _⟩, rfl⟩, ⟨rfl, ⟨_, rfl, lvO_id _⟩, rfl⟩, ⟨rfl, ⟨_, rfl, lvO_id _⟩, rfl⟩, ⟨rfl, ⟨_, rfl, lvO_id _⟩, rfl⟩, trivial⟩ ⟨rfl, rfl, rfl, rfl, rfl, trivial⟩ rfl)
      · skip
        refine D_skip (hK11 _ ?_)
        clear hK11; try clear K11
        refine D_region ?_
        refine DL_c (op_add _ _ rfl rfl (i64w (by omega))) ?_
        refine DL_c (mvI rfl) ?_
        refine DL_nil ?_
        refine ⟨k + 1, ?_, ?_, ?_⟩
        · exact ⟨by omega, all_succ hnk (by rw [← hb]; exact hc24)⟩
        · skip
          refine Le.mkJ [] [] rfl ?_ ?_ trivial ⟨rfl, rfl, rfl, rfl, rfl, trivial⟩ ?_
          · exact ⟨(iP rfl), (iV rfl), (iR rfl), (iV rfl), (iV rfl), (iR rfl), (iV rfl), (lvI (by rfl)), trivial⟩
          · exact ⟨(obE rfl rfl rfl), (obE rfl rfl rfl), (obE rfl rfl rfl), (obE rfl rfl rfl), (obE rfl rfl rfl), (obE rfl rfl rfl), (obE rfl rfl rfl), trivial⟩
          · kernel_rfl
        · omega
    · skip
      have hgF : (B.any fun b => R b (G.getD i 0)) = false := by
        rw [List.any_eq_false]
        intro b hb
        obtain ⟨j, hj, rfl⟩ := List.getElem_of_mem hb
        have := hnk j (by omega)
        rw [List.getD_eq_getElem?_getD, List.getElem?_eq_getElem hj, hg] at this
        simpa using this
      refine D_exit ?_
      refine id (hK6 _ ?_)
      clear hK6; try clear K6
      refine D_region ?_
      refine DL_c (op_add _ _ rfl rfl (i64w (by omega))) ?_
      refine DL_c (mvI rfl) ?_
      refine DL_nil ?_
      refine ⟨i + 1, ?_, ?_, ?_⟩
      · exact ⟨by omega, all_succ hno hgF⟩
      · skip
        refine Le.mkJ [] [] rfl ?_ ?_ trivial ⟨rfl, rfl, rfl, rfl, rfl, trivial⟩ ?_
        · exact ⟨(iP rfl), (iR rfl), (iV rfl), (lvI (by rfl)), trivial⟩
        · exact ⟨(obE rfl rfl rfl), (obE rfl rfl rfl), (obE rfl rfl rfl), (obE rfl rfl rfl), (obE rfl rfl rfl), (obE rfl rfl rfl), trivial⟩
        · kernel_rfl
      · omega
  · skip
    refine D_exit ?_
    refine id (hK2 _ ?_)
    clear hK2; try clear K2
    refine D_seq fun K15 hK15 => ?_
    refine D_region ?_
    refine DL_c (asB rfl) ?_
    refine DL_nil (hK15 _ ?_)
    clear hK15; try clear K15
    refine D_ret ?_
    exact ret1 (.inr rfl) rfl (.tmp (rfl : _ = AV.v (.bool _))) (Le.outI [] [] (lvB (by
        rw [List.any_eq_false]
        intro g hg
        obtain ⟨j, hj, rfl⟩ := List.getElem_of_mem hg
        have := hno j (by omega)
        rw [List.getD_eq_getElem?_getD, List.getElem?_eq_getElem hj] at this
        simpa using this)) rfl rfl rfl trivial ⟨⟨rfl, ⟨_, rfl, lvO_id _⟩, rfl⟩, ⟨rfl, ⟨_, rfl, lvO_id _⟩, rfl⟩, ⟨rfl, ⟨_, rfl, lvO_id _⟩, rfl⟩, ⟨rfl, ⟨_, rfl, lvO_id _⟩, rfl⟩, ⟨rfl, ⟨_, rfl, lvO_id _⟩, rfl⟩, trivial⟩ ⟨rfl, rfl, rfl, rfl, rfl, trivial⟩ rfl)
end Go.Proofs.Ytkbkmngbenohkaa

namespace Go.Proofs.Ytkbkmngbenohkaa
open Go.RowKit

theorem op_clr {P : Program} {σ : St} {z0 : Value} {T e : TypeId} {bytes : Nat} {dd : Option Tmp} {ty : TypeId} (x : Operand) (E : Elem P T e 1 bytes [z0]) {id : Oid} {off n : Nat} {xs : List PV} (hx : σ.eval x = .ref id off n) (hid : σ.ob id = .obj (.row e 1 xs)) (hn : 0 < n) (hfit : off + n ≤ xs.length)
  {ys : List PV} (hy : putL xs off (List.replicate n (.v z0)) = ys) : Stp P dd (.call { callee := .builtin .clear, args := #[x], argTypes := #[T] }) ty σ ((σ.setOb id (.obj (.row e 1 ys))).put dd .dead) := by
 intro o hd ho ht
 subst hd; subst hy
 intro K ι S a w R
 obtain ⟨B, h1, hsz, ⟨c, h3, h4, h5⟩, hrow⟩ := R.refB hid hx
 have hz1 : z0.oneCell' = true := E.one z0 (by simp)
 obtain ⟨inf, zv, hinf, hzero, hs, _, hzc⟩ := E.info
 rcases hrow with ⟨hg0, hl0, _⟩ | ⟨g, cur, hg, hheap, htot, hlen, hcell⟩
 ·omega
 ·rw [hg] at h5
  obtain ⟨o', h6, h7, _⟩ := h5
  obtain rfl := h7.resolve_right (by omega)
  have hvl : (List.replicate n z0).length = n := List.length_replicate
  have hpl : (List.replicate n (PV.v z0)).length = n := List.length_replicate
  have hst := run_storeCells_at (P := P) g o' e (List.replicate n z0) 0 cur w hheap (by rw [hvl]; omega) (fun u hu => by rw [List.eq_of_mem_replicate hu]; exact hz1)
  simp only [Nat.add_zero] at hst
  have hzn : (Builtin.zeroCells zv.cells n).toList = List.replicate n z0 := by
   rw [hzc]
   simp [Builtin.zeroCells]
   apply List.ext_getElem
   ·simp
   ·intro i h1 h2
    simp [Nat.mod_one]
  obtain ⟨m, rfl⟩ : ∃ m, n = m + 1 := ⟨n - 1, by omega⟩
  have hclr : (Builtin.clear_ #[T] o.type #[a.eval x]).run P w = .ok (.tuple #[]) (w.setRow g (putL cur.toList o' (List.replicate (m + 1) z0)).toArray) := by
   rw [h6]
   have hzr : (zeroValue e).run P w = .ok zv w := by simp [zeroValue, typeInfo, Sem.run, hinf, hzero]
   simp [Builtin.clear_, run_underlying E.und, hzr, hzn, hst, putL]
  have hrun : (execOp a.eval o).run P w = .ok (.value (.tuple #[])) (w.setRow g (putL cur.toList o' (List.replicate (m + 1) z0)).toArray) := by
   unfold execOp
   simp only [ho, resolve, invoke, builtin, Sem.run_bind, Sem.run_pure, Result.andThen_ok, List.map_toArray, List.map_cons, List.map_nil, hclr]
  have hcl : o' + (List.replicate (m + 1) z0).length ≤ cur.toList.length := by rw [hvl]; simp; omega
  have hcp : o' + (List.replicate (m + 1) (PV.v z0)).length ≤ xs.length := by rw [hpl]; exact hfit
  have hk : Keeps (fun k => B.g = some k) w (w.setRow g (putL cur.toList o' (List.replicate (m + 1) z0)).toArray) := keeps_setRow w g _ hg
  have hwS : ∀ k, S k → (w.setRow g (putL cur.toList o' (List.replicate (m + 1) z0)).toArray).heap[k]? = w.heap[k]? := fun k hk' => setRow_other w g k _ fun e => (R.sep id B g h1 hg).1 (e ▸ hk')
  have R1 := R.upd (o' := .row e 1 (putL xs o' (List.replicate (m + 1) (PV.v z0)))) hid h1 hk ⟨B, h1, hsz, .inr ⟨g, _, hg, setRow_heap w g _ _ e _ hheap, by simp [putL_len _ _ _ hcl, htot], by
    rw [putL_len _ _ _ hcp]; simp [putL_len _ _ _ hcl, hlen], fun j hj => ?_⟩⟩ (fun i hi => hi.elim)
  ·exact yields_value hrun ⟨ι, S, R1.put o.dst (by exact .dead) fun i hi => by cases hi⟩
  ·rw [putL_len _ _ _ hcp] at hj
   by_cases hin : o' ≤ j ∧ j < o' + (m + 1)
   ·refine ⟨z0, ?_, hz1, fun b hb => ?_⟩
    ·rw [List.getElem?_toArray, putL_get _ _ _ hcl, if_pos (by rw [hvl]; exact hin)]
     rw [List.getElem?_replicate, if_pos (by omega)]
    ·rw [putL_get _ _ _ hcp, if_pos (by rw [hpl]; exact hin)] at hb
     have := List.eq_of_mem_replicate (List.mem_of_getElem? hb)
     subst this
     exact .v hz1
   ·obtain ⟨u, hu, hu1, hu2⟩ := hcell j hj
    refine ⟨u, ?_, hu1, fun b hb => ?_⟩
    ·rw [List.getElem?_toArray, putL_get _ _ _ hcl, if_neg (by rw [hvl]; exact hin)]; simpa using hu
    ·rw [putL_get _ _ _ hcp, if_neg (by rw [hpl]; exact hin)] at hb
     exact (hu2 b hb).next hwS (fun _ h => h)
end Go.Proofs.Ytkbkmngbenohkaa

namespace Go.Proofs.Ytkbkmngbenohkaa
open Go.RowKit

theorem clone_own (m : Nat) (l : List Nat) (hm : l.length = m) (h0 : 0 < m) (h1 : m ≤ 1000000) :
  Spec Try.prog 131 (inSt [.sl m (nsl l)] []) (outSt (.ref (0, 8) 0 m) [((0, 8), .row 3 1 (nsl l))]) := by
 refine Spec.ofN Try.func131 rfl Try.ntmps131 rfl ?_
 refine D_seq fun K1 hK1 => ?_
 refine D_region ?_
 refine DL_c (op_as _ (rfl : _ = AV.v (.slice _ _ _))) ?_
 refine DL_nil (hK1 _ ?_)
 clear hK1; try clear K1
 refine D_seq fun K2 hK2 => ?_
 refine D_seq fun K3 hK3 => ?_
 refine D_region ?_
 refine DL_c (mvS rfl) ?_
 refine DL_c (op_eqlS _ _ Try.underlying29 (.inl ⟨_, rfl⟩) h0 rfl) ?_
 refine DL_nil (hK3 _ ?_)
 clear hK3; try clear K3
 refine D_cF rfl rfl ?_
 refine D_skip (hK2 _ ?_)
 clear hK2; try clear K2
 refine D_seq fun K4 hK4 => ?_
 refine D_region ?_
 refine DL_c (op_bsZ _ inferInstance rfl) ?_
 refine DL_c (mvS rfl) ?_
 refine DL_c (op_apZR (7, 0) _ _ inferInstance rfl h0 (.sl (by simp; omega)) (by omega) rfl) ?_
 refine DL_c (asR rfl) ?_
 refine DL_nil (hK4 _ ?_)
 clear hK4; try clear K4
 refine D_ret ?_
 exact ret1 (.inr rfl) rfl (.tmp (rfl : _ = AV.ref _ _ _)) (Le.out [((0, 8), (7, 0))] [] (lvRr rfl (by rfl)) rfl rfl rfl trivial ⟨⟨rfl, ⟨_, rfl, .rowE (by rfl)⟩, rfl⟩, trivial⟩)
theorem open1_spec (n : Nat) (P A : List Nat) (hA : A.length = n) (hn : n ≤ 64) (hw : ∀ v, A.getD v 0 < 18446744073709551616) (h : Nat) (sc : List Nat) (g v : Nat) :
  Spec Try.prog 127 (inSt [.v (.int .i64 (g : Int)), .fp 0 [.ptr 0 (sP n P A h sc)], .fp 0 [.v (.int .i64 (v : Int))]] []) (outSt (.v (.bool (anR n A v g))) []) := by
 have ha := anc_spec n P A hA hn hw h sc v g
 refine Spec.ofN Try.func127 rfl Try.ntmps127 rfl ?_
 refine D_seq fun K1 hK1 => ?_
 refine D_region ?_
 refine DL_c (asB rfl) ?_
 refine DL_nil (hK1 _ ?_)
 clear hK1; try clear K1
 refine D_seq fun K2 hK2 => ?_
 refine D_region ?_
 refine DL_c (op_ldF _ inferInstance rfl (rfl : _ = some (PV.ptr 0 (sP n P A h sc))) rfl) ?_
 refine DL_c (op_ldF _ inferInstance rfl (rfl : _ = some (PV.v (.int .i64 (v : Int)))) rfl) ?_
 refine DL_c (mvI rfl) ?_
 refine DL_c (op_callH inferInstance (by repeat' (first | exact argsLv_nil | refine argsLv_cons ?_ ?_ | exact Lv.v | exact Lv.fp)) (ha) rfl rfl) ?_
 refine DL_c (asB rfl) ?_
 refine DL_nil (hK2 _ ?_)
 clear hK2; try clear K2
 refine D_ret ?_
 refine ret1 (.inr rfl) rfl (.tmp (rfl : _ = AV.v (.bool _))) (Le.out [] [] (lvB ?_) rfl rfl rfl trivial trivial)
 rfl
theorem open2_spec (n : Nat) (P A : List Nat) (hA : A.length = n) (hn : n ≤ 64) (hw : ∀ v, A.getD v 0 < 18446744073709551616) (h : Nat) (sc : List Nat) (b v : Nat) :
  Spec Try.prog 129 (inSt [.v (.int .i64 (b : Int)), .fp 0 [.ptr 0 (sP n P A h sc)], .fp 0 [.v (.int .i64 (v : Int))]] []) (outSt (.v (.bool (decide (b ≠ h) && anR n A b v))) []) := by
 have ha := anc_spec n P A hA hn hw h sc b v
 refine Spec.ofN Try.func129 rfl Try.ntmps129 rfl ?_
 refine D_seq fun K1 hK1 => ?_
 refine D_region ?_
 refine DL_c (asB rfl) ?_
 refine DL_nil (hK1 _ ?_)
 clear hK1; try clear K1
 refine D_seq fun K2 hK2 => ?_
 refine D_region ?_
 refine DL_c (mvI rfl) ?_
 refine DL_c (op_ldF _ inferInstance rfl (rfl : _ = some (PV.ptr 0 (sP n P A h sc))) rfl) ?_
 refine DL_c (op_nilc _ rfl) ?_
 refine DL_c (op_fldF _ inferInstance rfl rfl) ?_
 refine DL_c (op_ldF _ inferInstance rfl (rfl : _ = some (PV.v (.int .i64 (h : Int)))) rfl) ?_
 refine DL_c (op_neq _ _ rfl rfl rfl) ?_
 refine DL_c (mvB rfl) ?_
 refine DL_caseC (fun hg11 => ?_) (fun hg11 => ?_)
 ·skip
  refine DL_cy rfl rfl (op_ldF _ inferInstance rfl (rfl : _ = some (PV.ptr 0 (sP n P A h sc))) rfl) ?_
  refine DL_cy rfl rfl (mvI rfl) ?_
  refine DL_cy rfl rfl (op_ldF _ inferInstance rfl (rfl : _ = some (PV.v (.int .i64 (v : Int)))) rfl) ?_
  refine DL_cy rfl rfl (op_callH inferInstance (by repeat' (first | exact argsLv_nil | refine argsLv_cons ?_ ?_ | exact Lv.v | exact Lv.fp)) (ha) rfl rfl) ?_
  refine DL_c (op_pick _ _ _ rfl (rfl : _ = AV.v (.bool _))) ?_
  refine DL_c (asB rfl) ?_
  refine DL_nil (hK2 _ ?_)
  clear hK2; try clear K2
  refine D_ret ?_
  refine ret1 (.inr rfl) rfl (.tmp (rfl : _ = AV.v (.bool _))) (Le.out [] [] (lvB ?_) rfl rfl rfl trivial trivial)
  have : b ≠ h := fun e => hg11 (by rw [e]); simp [this]
 ·skip
  refine DL_cn rfl rfl (by decide) ?_
  refine DL_cn rfl rfl (by decide) ?_
  refine DL_cn rfl rfl (by decide) ?_
  refine DL_cn rfl rfl (by decide) ?_
  refine DL_c (op_pick _ _ _ rfl (rfl : _ = AV.v (.bool _))) ?_
  refine DL_c (asB rfl) ?_
  refine DL_nil (hK2 _ ?_)
  clear hK2; try clear K2
  refine D_ret ?_
  refine ret1 (.inr rfl) rfl (.tmp (rfl : _ = AV.v (.bool _))) (Le.out [] [] (lvB ?_) rfl rfl rfl trivial trivial)
  have : b = h := (by omega); simp [this]
theorem cand1_spec (n : Nat) (P A : List Nat) (hA : A.length = n) (hn : n ≤ 64) (hw : ∀ v, A.getD v 0 < 18446744073709551616) (h : Nat) (sc : List Nat) (b v : Nat) :
  Spec Try.prog 133 (inSt [.v (.int .i64 (b : Int)), .fp 0 [.v (.int .i64 (v : Int))], .fp 0 [.ptr 0 (sP n P A h sc)]] []) (outSt (.v (.bool (decide (b ≠ v) && anR n A b v))) []) := by
 have ha := anc_spec n P A hA hn hw h sc b v
 refine Spec.ofN Try.func133 rfl Try.ntmps133 rfl ?_
 refine D_seq fun K1 hK1 => ?_
 refine D_region ?_
 refine DL_c (asB rfl) ?_
 refine DL_nil (hK1 _ ?_)
 clear hK1; try clear K1
 refine D_seq fun K2 hK2 => ?_
 refine D_region ?_
 refine DL_c (mvI rfl) ?_
 refine DL_c (op_ldF _ inferInstance rfl (rfl : _ = some (PV.v (.int .i64 (v : Int)))) rfl) ?_
 refine DL_c (op_neq _ _ rfl rfl rfl) ?_
 refine DL_c (mvB rfl) ?_
 refine DL_caseC (fun hg8 => ?_) (fun hg8 => ?_)
 ·skip
  refine DL_cy rfl rfl (op_ldF _ inferInstance rfl (rfl : _ = some (PV.ptr 0 (sP n P A h sc))) rfl) ?_
  refine DL_cy rfl rfl (mvI rfl) ?_
  refine DL_cy rfl rfl (op_ldF _ inferInstance rfl (rfl : _ = some (PV.v (.int .i64 (v : Int)))) rfl) ?_
  refine DL_cy rfl rfl (op_callH inferInstance (by repeat' (first | exact argsLv_nil | refine argsLv_cons ?_ ?_ | exact Lv.v | exact Lv.fp)) (ha) rfl rfl) ?_
  refine DL_c (op_pick _ _ _ rfl (rfl : _ = AV.v (.bool _))) ?_
  refine DL_c (asB rfl) ?_
  refine DL_nil (hK2 _ ?_)
  clear hK2; try clear K2
  refine D_ret ?_
  refine ret1 (.inr rfl) rfl (.tmp (rfl : _ = AV.v (.bool _))) (Le.out [] [] (lvB ?_) rfl rfl rfl trivial trivial)
  have : b ≠ v := fun e => hg8 (by rw [e]); simp [this]
 ·skip
  refine DL_cn rfl rfl (by decide) ?_
  refine DL_cn rfl rfl (by decide) ?_
  refine DL_cn rfl rfl (by decide) ?_
  refine DL_cn rfl rfl (by decide) ?_
  refine DL_c (op_pick _ _ _ rfl (rfl : _ = AV.v (.bool _))) ?_
  refine DL_c (asB rfl) ?_
  refine DL_nil (hK2 _ ?_)
  clear hK2; try clear K2
  refine D_ret ?_
  refine ret1 (.inr rfl) rfl (.tmp (rfl : _ = AV.v (.bool _))) (Le.out [] [] (lvB ?_) rfl rfl rfl trivial trivial)
  have : b = v := (by omega); simp [this]
theorem anyN (p : Nat → Bool) (l : List Nat) : (l.map fun (x : Nat) => (x : Int)).any (fun x => p x.toNat) = l.any p := by
 rw [List.any_map]; rfl
theorem getN (l : List Nat) (i : Nat) : (l.map fun (x : Nat) => (x : Int)).getD i 0 = ((l.getD i 0 : Nat) : Int) := by
 simp only [List.getD_eq_getElem?_getD, List.getElem?_map]
 cases l[i]? <;> rfl
theorem containsN_spec (f : FuncId) (C : Cbl Try.prog f) (caps : List AV) (hcp : AV.pures caps = true) (hcw : ∀ ids, AV.withins ids caps = true) (n : Nat) (xs : List Nat) (hn : xs.length = n) (h1 : n ≤ 4611686018427387904) (p : Nat → Bool)
  (hp : ∀ x : Nat, Spec Try.prog f (inSt (.v (.int .i64 (x : Int)) :: caps) []) (outSt (.v (.bool (p x))) [])) :
  Spec Try.prog 85 (inSt [.sl n (nsl xs), .fn (.func f) [] caps] []) (outSt (.v (.bool (xs.any p))) []) := by
 have h := containsf_spec f C caps hcp hcw n (xs.map fun (x : Nat) => (x : Int)) (by simp [hn]) h1 (fun x => p x.toNat) fun i hi => by
  rw [getN]; exact hp _
 rw [anyN] at h
 exact h
def flt (p : Nat → Bool) (l : List Nat) (k : Nat) : List Nat := (l.take k).filter fun v => !p v
def dcl (p : Nat → Bool) (l : List Nat) (k : Nat) : List Nat := flt p l k ++ l.drop (flt p l k).length
theorem flt_len (p : Nat → Bool) (l : List Nat) (k : Nat) : (flt p l k).length ≤ k ∧ (flt p l k).length ≤ l.length := by
 have h1 := List.length_filter_le (fun v => !p v) (l.take k)
 rw [List.length_take] at h1
 unfold flt; omega
theorem flt_yes {p : Nat → Bool} {l : List Nat} {k : Nat} (hk : k < l.length) (h : p (l.getD k 0) = false) : flt p l (k + 1) = flt p l k ++ [l.getD k 0] := by
 unfold flt; rw [take1 0 hk, List.filter_append]; simp only [List.filter_cons, List.filter_nil, h]; rfl
theorem flt_no {p : Nat → Bool} {l : List Nat} {k : Nat} (hk : k < l.length) (h : p (l.getD k 0) = true) : flt p l (k + 1) = flt p l k := by
 unfold flt; rw [take1 0 hk, List.filter_append]; simp only [List.filter_cons, List.filter_nil, h]; simp
@[simp] theorem dcl_len (p : Nat → Bool) (l : List Nat) (k : Nat) : (dcl p l k).length = l.length := by
 have := (flt_len p l k).2
 unfold dcl; rw [List.length_append, List.length_drop]; omega
theorem dcl_get {p : Nat → Bool} {l : List Nat} {k : Nat} : (dcl p l k).getD k 0 = l.getD k 0 := by
 have := (flt_len p l k).1
 unfold dcl
 rw [List.getD_eq_getElem?_getD, List.getElem?_append_right this, List.getElem?_drop, List.getD_eq_getElem?_getD]
 congr 2; omega
theorem dcl_yes {p : Nat → Bool} {l : List Nat} {k : Nat} (hk : k < l.length) (h : p (l.getD k 0) = false) : (dcl p l k).set (flt p l k).length (l.getD k 0) = dcl p l (k + 1) := by
 have h1 := (flt_len p l k).1
 unfold dcl
 rw [flt_yes hk h, List.set_append_right _ _ (Nat.le_refl _), Nat.sub_self, List.drop_eq_getElem_cons (show (flt p l k).length < l.length by omega), List.set_cons_zero, List.length_append, List.append_assoc]
 rfl
theorem dcl_no {p : Nat → Bool} {l : List Nat} {k : Nat} (hk : k < l.length) (h : p (l.getD k 0) = true) : dcl p l (k + 1) = dcl p l k := by
 unfold dcl; rw [flt_no hk h]
theorem flt_all {p : Nat → Bool} {l : List Nat} {k : Nat} (h : ∀ j, j < k → p (l.getD j 0) = false) (hk : k ≤ l.length) : flt p l k = l.take k := by
 unfold flt
 rw [List.filter_eq_self]
 intro v hv
 obtain ⟨j, hj, rfl⟩ := List.getElem_of_mem hv
 rw [List.length_take] at hj
 have := h j (by omega)
 rw [List.getD_eq_getElem?_getD, List.getElem?_eq_getElem (by omega)] at this
 simpa using this
theorem nslN_put (l : List Nat) (k x : Nat) (h : k < l.length) : putL (nsl l) k [.v (.int .i64 (x : Int))] = nsl (l.set k x) := by
 have := nsl_put l k (x : Int) h (by omega)
 rw [Int.toNat_natCast] at this
 exact this.symm
theorem nsl_split (a b : List Nat) : nsl (a ++ b) = nsl a ++ nsl b := (nsl_append a b).symm
theorem clr_rowN {a b : List Nat} {k n : Nat} (ha : a.length = k) (hn : k + b.length = n) : ∃ zs, putL (nsl (a ++ b)) k (List.replicate (n - k) (.v (.int .i64 0))) = nsl a ++ zs := by
 refine ⟨List.replicate (n - k) (.v (.int .i64 0)) ++ (nsl (a ++ b)).drop (k + (List.replicate (n - k) (PV.v (Value.int IntKind.i64 0))).length), ?_⟩
 rw [putL, List.append_assoc, nsl_split, List.take_append_of_le_length (by simp [ha]), List.take_of_length_le (by simp [ha])]
theorem first_case (q : Nat → Bool) : ∀ n, (∀ j, j < n → q j = false) ∨ ∃ i, i < n ∧ (∀ j, j < i → q j = false) ∧ q i = true
 | 0 => .inl fun j hj => by omega
 | n + 1 => by
  rcases first_case q n with h | ⟨i, h1, h2, h3⟩
  ·cases hq : q n with
   | false => exact .inl (all_succ h hq)
   | true => exact .inr ⟨n, by omega, h, hq⟩
  ·exact .inr ⟨i, by omega, h2, h3⟩
theorem filter_none {p : Nat → Bool} {l : List Nat} (h : ∀ j, j < l.length → p (l.getD j 0) = false) : (l.filter fun v => !p v) = l := by
 have := flt_all h (Nat.le_refl _)
 unfold flt at this
 rwa [List.take_length] at this
section
variable (f : FuncId) (C : Cbl Try.prog f) (caps : List AV) (hcp : AV.pures caps = true) (hcw : ∀ ids, AV.withins ids caps = true) (n : Nat) (l : List Nat) (hn : l.length = n) (h1 : n ≤ 1000000) (p : Nat → Bool)
  (hp : ∀ x : Nat, Spec Try.prog f (inSt (.v (.int .i64 (x : Int)) :: caps) []) (outSt (.v (.bool (p x))) []))
include C hcp hcw hn h1 hp
end
end Go.Proofs.Ytkbkmngbenohkaa

namespace Go.Proofs.Ytkbkmngbenohkaa
open Go.RowKit

def adN (ord : List Nat) (v : Nat) : List Nat := if v ∈ ord then ord else ord ++ [v]
theorem adN_mem {ord : List Nat} {v u : Nat} : u ∈ adN ord v ↔ u ∈ ord ∨ u = v := by
 unfold adN; split
 ·rename_i h
  exact ⟨.inl, fun h' => h'.elim id fun e => e ▸ h⟩
 ·simp
theorem adN_ok {n : Nat} {ord : List Nat} (h : ok1 n ord) {v : Nat} (hv : v < n) : ok1 n (adN ord v) := by
 unfold adN; split
 ·exact h
 ·rename_i hn; exact h.add hv hn
theorem adN_pre (ord : List Nat) (v : Nat) : ∃ x, adN ord v = ord ++ x := by
 unfold adN; split
 ·exact ⟨[], by simp⟩
 ·exact ⟨[v], rfl⟩
theorem pre_trans {α : Type} {a b c : List α} (h : ∃ x, b = a ++ x) (h' : ∃ x, c = b ++ x) : ∃ x, c = a ++ x := by
 obtain ⟨x, rfl⟩ := h
 obtain ⟨y, rfl⟩ := h'
 exact ⟨x ++ y, by simp⟩
theorem pre_len {α : Type} {a b : List α} (h : ∃ x, b = a ++ x) : a.length ≤ b.length := by
 obtain ⟨x, rfl⟩ := h
 simp
theorem chsK_mem {R : Rl} {l : List Nat} : ∀ k, k ≤ l.length → 0 < k → 0 ≤ (chsK R l k).2 ∧ ∃ v ∈ l, (chsK R l k).1 = (v : Int)
 | 0, _, h => by omega
 | k + 1, h, _ => by
  have hm : l.getD k 0 ∈ l := getD_mem (by omega)
  rw [chsK_succ (by omega)]
  unfold chs1
  split
  ·exact ⟨by simp only; omega, _, hm, rfl⟩
  ·rename_i hn
   by_cases hk : k = 0
   ·subst hk
    simp only [chsK, List.take_zero, List.foldl_nil] at hn
    omega
   ·exact chsK_mem k (by omega) (by omega)
theorem chs_mem {R : Rl} {l : List Nat} (h : l ≠ []) : ∃ v ∈ l, chs R l = (v : Int) := by
 have : 0 < l.length := by
  cases l with
  | nil => exact absurd rfl h
  | cons a b => simp
 exact (chsK_mem (R := R) l.length (Nat.le_refl _) this).2
def chsN (R : Rl) (l : List Nat) : Nat := (chs R l).toNat
theorem chsN_mem {R : Rl} {l : List Nat} (h : l ≠ []) : chsN R l ∈ l ∧ chs R l = (chsN R l : Int) := by
 obtain ⟨v, hv, he⟩ := chs_mem (R := R) h
 unfold chsN
 rw [he, Int.toNat_natCast]
 exact ⟨hv, rfl⟩
theorem opn_mem {R : Rl} {n : Nat} {ord : List Nat} {st : List Int} {h : Nat} {sc : List Nat} {v : Nat} (hv : v ∈ opn R n ord st h sc) : v ∈ sc ∧ v ∉ ord := by
 unfold opn at hv
 rw [List.mem_filter] at hv
 refine ⟨hv.1, fun hm => ?_⟩
 have h2 := hv.2
 simp [stl, hm] at h2
def lop (R : Rl) (n : Nat) (st : List Int) (h : Nat) (sc : List Nat) : Nat → List Nat → List Nat × Bool
 | 0, ord => (ord, true)
 | k + 1, ord =>
  if opn R n ord st h sc = [] then (ord, true)
  else if con R n (ord ++ [chsN R (opn R n ord st h sc)]) st = true then (ord ++ [chsN R (opn R n ord st h sc)], false)
  else lop R n st h sc k (ord ++ [chsN R (opn R n ord st h sc)])
section
variable {R : Rl} {n : Nat} {st : List Int} {h : Nat} {sc : List Nat}
theorem opn_few {ord : List Nat} (ho : ok1 n ord) (hsc : ∀ v ∈ sc, v < n) (hne : opn R n ord st h sc ≠ []) : ord.length < n := by
 obtain ⟨h1, _⟩ := chsN_mem (R := R) hne
 obtain ⟨h2, h3⟩ := opn_mem h1
 have := (ho.add (hsc _ h2) h3).len
 simp at this
 omega
theorem lop_done (k : Nat) {ord : List Nat} (he : opn R n ord st h sc = []) : lop R n st h sc k ord = (ord, true) := by
 cases k with
 | zero => rfl
 | succ k => rw [lop, if_pos he]
theorem lop_stop {k : Nat} {ord : List Nat} (he : opn R n ord st h sc ≠ []) (hc : con R n (ord ++ [chsN R (opn R n ord st h sc)]) st = true) : lop R n st h sc (k + 1) ord = (ord ++ [chsN R (opn R n ord st h sc)], false) := by
 rw [lop, if_neg he, if_pos hc]
theorem lop_next {k : Nat} {ord : List Nat} (he : opn R n ord st h sc ≠ []) (hc : con R n (ord ++ [chsN R (opn R n ord st h sc)]) st = false) : lop R n st h sc (k + 1) ord = lop R n st h sc k (ord ++ [chsN R (opn R n ord st h sc)]) := by
 rw [lop, if_neg he, if_neg (by simp [hc])]
theorem lop_ok (hsc : ∀ v ∈ sc, v < n) : ∀ k ord, ok1 n ord → ok1 n (lop R n st h sc k ord).1 ∧ (∃ x, (lop R n st h sc k ord).1 = ord ++ x) ∧ (∀ u ∈ (lop R n st h sc k ord).1, u ∈ ord ∨ u ∈ sc) ∧
   (n ≤ ord.length + k → (lop R n st h sc k ord).2 = true → opn R n (lop R n st h sc k ord).1 st h sc = [])
 | 0, ord, ho => ⟨ho, ⟨[], by simp [lop]⟩, fun u hu => .inl hu, fun hk _ => by
   apply Classical.byContradiction
   intro hne
   have := opn_few ho hsc hne
   omega⟩
 | k + 1, ord, ho => by
  by_cases he : opn R n ord st h sc = []
  ·rw [lop_done _ he]
   exact ⟨ho, ⟨[], by simp⟩, fun u hu => .inl hu, fun _ _ => he⟩
  ·obtain ⟨h1, _⟩ := chsN_mem (R := R) he
   obtain ⟨h2, h3⟩ := opn_mem h1
   have ho' := ho.add (hsc _ h2) h3
   cases hc : con R n (ord ++ [chsN R (opn R n ord st h sc)]) st with
   | true =>
    rw [lop_stop he hc]
    refine ⟨ho', ⟨_, rfl⟩, fun u hu => ?_, fun _ hf => by cases hf⟩
    rcases List.mem_append.1 hu with hu | hu
    ·exact .inl hu
    ·simp at hu; subst hu; exact .inr h2
   | false =>
    rw [lop_next he hc]
    obtain ⟨i1, i2, i3, i4⟩ := lop_ok hsc k _ ho'
    refine ⟨i1, pre_trans ⟨_, rfl⟩ i2, fun u hu => ?_, fun hk => i4 (by simp; omega)⟩
    rcases i3 u hu with hu | hu
    ·rcases List.mem_append.1 hu with hu | hu
     ·exact .inl hu
     ·simp at hu; subst hu; exact .inr h2
    ·exact .inr hu
end

/-! ### The visit of the parents -/
abbrev VS := List Nat × List Nat
def vstep (cf : List Nat → Bool) (un : Nat → Bool) (rc : Nat → VS → VS × Bool) (p : Nat) (q : VS) : VS × Bool :=
 if cf (adN q.1 p) = true then ((adN q.1 p, q.2), false)
 else if un p = true ∧ p ∉ q.2 then rc p (adN q.1 p, q.2 ++ [p])
 else ((adN q.1 p, q.2), true)
def vlist {σ : Type} (stp : Nat → σ → σ × Bool) : List Nat → σ → σ × Bool
 | [], q => (q, true)
 | p :: l, q => if (stp p q).2 = true then vlist stp l (stp p q).1 else stp p q
def vis (cf : List Nat → Bool) (un : Nat → Bool) (par : Nat → List Nat) : Nat → Nat → VS → VS × Bool
 | 0, _, q => (q, true)
 | k + 1, v, q => vlist (vstep cf un (vis cf un par k)) (par v) q
theorem vlist_app {σ : Type} {stp : Nat → σ → σ × Bool} : ∀ (a b : List Nat) (q : σ), vlist stp (a ++ b) q = if (vlist stp a q).2 = true then vlist stp b (vlist stp a q).1 else vlist stp a q
 | [], b, q => rfl
 | p :: a, b, q => by
  cases h : (stp p q).2 with
  | true => simp only [List.cons_append, vlist, h, if_true]; exact vlist_app a b _
  | false => simp [vlist, h]
theorem vlist_one {σ : Type} {stp : Nat → σ → σ × Bool} (p : Nat) (q : σ) : vlist stp [p] q = stp p q := by
 simp only [vlist]
 split
 ·rename_i h
  exact Prod.ext rfl h.symm
 ·rfl
theorem vlist_succ {σ : Type} {stp : Nat → σ → σ × Bool} {l : List Nat} {q : σ} {i : Nat} (hi : i < l.length) (ht : (vlist stp (l.take i) q).2 = true) : vlist stp (l.take (i + 1)) q = stp (l.getD i 0) (vlist stp (l.take i) q).1 := by
 rw [take1 0 hi, vlist_app, if_pos ht, vlist_one]
theorem vlist_stop {σ : Type} {stp : Nat → σ → σ × Bool} {l : List Nat} {q : σ} {i : Nat} (hf : (vlist stp (l.take i) q).2 = false) : vlist stp l q = vlist stp (l.take i) q := by
 conv => lhs; rw [← List.take_append_drop i l]
 rw [vlist_app, if_neg (by simp [hf])]
theorem vlist_inv {σ : Type} {stp : Nat → σ → σ × Bool} {I : σ → Prop} : ∀ (l : List Nat) (q : σ), (∀ p ∈ l, ∀ q, I q → I (stp p q).1) → I q → I (vlist stp l q).1
 | [], q, _, h => h
 | p :: l, q, hs, h => by
  simp only [vlist]
  have h1 := hs p (by simp) q h
  split
  ·exact vlist_inv l _ (fun p' hp' => hs p' (by simp [hp'])) h1
  ·exact h1
theorem vis_inv {cf : List Nat → Bool} {un : Nat → Bool} {par : Nat → List Nat} {I : VS → Prop} {T : Nat → Prop} (hT : ∀ v, T v → ∀ p ∈ par v, T p)
  (h1 : ∀ p q, T p → I q → I (adN q.1 p, q.2)) (h2 : ∀ p q, T p → un p = true → p ∉ q.2 → I q → I (q.1, q.2 ++ [p])) : ∀ k v q, T v → I q → I (vis cf un par k v q).1
 | 0, v, q, _, h => h
 | k + 1, v, q, hv, h => by
  refine vlist_inv (par v) q (fun p hp q hq => ?_) h
  have hp' := hT v hv p hp
  have hq' := h1 p q hp' hq
  unfold vstep
  split
  ·exact hq'
  ·split
   ·rename_i hu
    exact vis_inv hT h1 h2 k p _ hp' (h2 p (adN q.1 p, q.2) hp' hu.1 hu.2 hq')
   ·exact hq'
section
variable {cf : List Nat → Bool} {un : Nat → Bool} {par : Nat → List Nat} {n : Nat}
theorem vis_ok (hp : ∀ v, v < n → ∀ p ∈ par v, p < n) {k v : Nat} {q : VS} (hv : v < n) (h1 : ok1 n q.1) (h2 : ok1 n q.2) : ok1 n (vis cf un par k v q).1.1 ∧ ok1 n (vis cf un par k v q).1.2 ∧ (∃ x, (vis cf un par k v q).1.1 = q.1 ++ x) ∧ ∃ x, (vis cf un par k v q).1.2 = q.2 ++ x := by
 refine vis_inv (I := fun r => ok1 n r.1 ∧ ok1 n r.2 ∧ (∃ x, r.1 = q.1 ++ x) ∧ ∃ x, r.2 = q.2 ++ x) (T := fun v => v < n) hp (fun p r hp hr => ?_) (fun p r hp _ hn hr => ?_) k v q hv ⟨h1, h2, ⟨[], by simp⟩, ⟨[], by simp⟩⟩
 ·exact ⟨adN_ok hr.1 hp, hr.2.1, pre_trans hr.2.2.1 (adN_pre _ _), hr.2.2.2⟩
 ·exact ⟨hr.1, hr.2.1.add hp hn, hr.2.2.1, pre_trans hr.2.2.2 ⟨_, rfl⟩⟩
theorem vlist_ok (hp : ∀ v, v < n → ∀ p ∈ par v, p < n) {k : Nat} {l : List Nat} {q : VS} (hl : ∀ p ∈ l, p < n) (h1 : ok1 n q.1) (h2 : ok1 n q.2) :
  ok1 n (vlist (vstep cf un (vis cf un par k)) l q).1.1 ∧ ok1 n (vlist (vstep cf un (vis cf un par k)) l q).1.2 ∧ (∃ x, (vlist (vstep cf un (vis cf un par k)) l q).1.1 = q.1 ++ x) ∧ ∃ x, (vlist (vstep cf un (vis cf un par k)) l q).1.2 = q.2 ++ x := by
 refine vlist_inv (I := fun r => ok1 n r.1 ∧ ok1 n r.2 ∧ (∃ x, r.1 = q.1 ++ x) ∧ ∃ x, r.2 = q.2 ++ x) l q (fun p hpl r hr => ?_) ⟨h1, h2, ⟨[], by simp⟩, ⟨[], by simp⟩⟩
 have hpn := hl p hpl
 have ha := adN_ok hr.1 hpn
 have hb := pre_trans hr.2.2.1 (adN_pre r.1 p)
 unfold vstep
 split
 ·exact ⟨ha, hr.2.1, hb, hr.2.2.2⟩
 ·split
  ·rename_i hu
   obtain ⟨i1, i2, i3, i4⟩ := vis_ok (cf := cf) (un := un) (k := k) hp hpn (q := (adN r.1 p, r.2 ++ [p])) ha (hr.2.1.add hpn hu.2)
   exact ⟨i1, i2, pre_trans hb i3, pre_trans (pre_trans hr.2.2.2 ⟨_, rfl⟩) i4⟩
  ·exact ⟨ha, hr.2.1, hb, hr.2.2.2⟩
theorem vis_tested {T : Nat → Prop} (hT : ∀ v, T v → ∀ p ∈ par v, T p) {k v : Nat} {q : VS} (hv : T v) (h : ∀ u ∈ q.1, T u) : ∀ u ∈ (vis cf un par k v q).1.1, T u := by
 refine vis_inv (I := fun r => ∀ u ∈ r.1, T u) hT (fun p r hp hr u hu => ?_) (fun p r _ _ _ hr => hr) k v q hv h
 rcases adN_mem.1 hu with hu | rfl
 ·exact hr u hu
 ·exact hp
end

/-! ### The blames -/
def fil (n : Nat) (l : List Nat) : List Nat := (List.range n).filter fun v => decide (v ∈ l)
theorem fil_mem {n : Nat} {l : List Nat} {v : Nat} : v ∈ fil n l ↔ v < n ∧ v ∈ l := by simp [fil]
theorem fil_len (n : Nat) (l : List Nat) : (fil n l).length ≤ n := by
 have := List.length_filter_le (fun v => decide (v ∈ l)) (List.range n)
 simpa [fil] using this
theorem fil_srt {n : Nat} {l : List Nat} (h : ok1 n l) : isl (srt (l.map fun (v : Nat) => (v : Int))) = nsl (fil n l) := by
 have e : srt (l.map fun (v : Nat) => (v : Int)) = (fil n l).map fun (v : Nat) => (v : Int) := by
  refine (srt_of ?_ ?_).symm
  ·refine List.Perm.map _ ((List.perm_ext_iff_of_nodup (List.Pairwise.filter _ List.nodup_range) h.1).2 fun v => ?_)
   rw [← fil, fil_mem]
   exact ⟨fun h => h.2, fun hv => ⟨h.2 v hv, hv⟩⟩
  ·rw [List.pairwise_map]
   exact (List.Pairwise.filter _ List.pairwise_lt_range : (fil n l).Pairwise (· < ·)).imp fun h => by omega
 rw [e]
 simp [isl, nsl]
abbrev BS := List Nat × List (Nat × List Nat)
def bstep (vs : Nat → VS → VS × Bool) (n : Nat) (v : Nat) (q : BS) : BS × Bool :=
 if (vs v (q.1, [])).2 = true then (((vs v (q.1, [])).1.1, q.2 ++ [(v, fil n (vs v (q.1, [])).1.2)]), true) else (((vs v (q.1, [])).1.1, q.2), false)
def unN (st : List Int) (v : Nat) : Bool := decide (nst st v = 2)
abbrev vsF (R : Rl) (n : Nat) (par : Nat → List Nat) (st : List Int) : Nat → VS → VS × Bool := vis (fun o => con R n o st) (unN st) par (n + 1)
def fnd (R : Rl) (n : Nat) (par : Nat → List Nat) (st : List Int) (h : Nat) (sc : List Nat) : BS × Bool :=
 if (lop R n st h sc n [h]).2 = true then vlist (bstep (vsF R n par st) n) (cnd R n (lop R n st h sc n [h]).1 st) ((lop R n st h sc n [h]).1, []) else (((lop R n st h sc n [h]).1, []), false)
theorem cnd_lt {R : Rl} {n : Nat} {ord : List Nat} {st : List Int} {v : Nat} (h : v ∈ cnd R n ord st) : v < n ∧ v ∈ ord ∧ nst st v = 1 := by
 unfold cnd at h
 exact tst_mem.1 (List.mem_filter.1 h).1
section
variable {R : Rl} {n : Nat} {par : Nat → List Nat} {st : List Int}
theorem bls_inv (hp : ∀ v, v < n → ∀ p ∈ par v, p < n) {T : Nat → Prop} (hT : ∀ v, T v → ∀ p ∈ par v, T p) {l : List Nat} {q : BS} (hl : ∀ v ∈ l, v < n ∧ T v) (h1 : ok1 n q.1) (h2 : ∀ u ∈ q.1, T u) :
  ok1 n (vlist (bstep (vsF R n par st) n) l q).1.1 ∧ (∃ x, (vlist (bstep (vsF R n par st) n) l q).1.1 = q.1 ++ x) ∧ ∀ u ∈ (vlist (bstep (vsF R n par st) n) l q).1.1, T u := by
 refine vlist_inv (I := fun r => ok1 n r.1 ∧ (∃ x, r.1 = q.1 ++ x) ∧ ∀ u ∈ r.1, T u) l q (fun v hv r hr => ?_) ⟨h1, ⟨[], by simp⟩, h2⟩
 have h3 := vis_ok (cf := fun o => con R n o st) (un := unN st) (k := n + 1) hp (hl v hv).1 (q := (r.1, [])) hr.1 ⟨List.nodup_nil, fun v hv => by simp at hv⟩
 have h4 := vis_tested (cf := fun o => con R n o st) (un := unN st) (k := n + 1) hT (q := (r.1, [])) (hl v hv).2 hr.2.2
 unfold bstep
 split
 ·exact ⟨h3.1, pre_trans hr.2.1 h3.2.2.1, h4⟩
 ·exact ⟨h3.1, pre_trans hr.2.1 h3.2.2.1, h4⟩
theorem fnd_inv (hp : ∀ v, v < n → ∀ p ∈ par v, p < n) {T : Nat → Prop} (hT : ∀ v, T v → ∀ p ∈ par v, T p) {h : Nat} {sc : List Nat} (hsc : ∀ v ∈ sc, v < n ∧ T v) (hn : h < n) (hh : T h) :
  ok1 n (fnd R n par st h sc).1.1 ∧ (∃ x, (fnd R n par st h sc).1.1 = h :: x) ∧ ∀ u ∈ (fnd R n par st h sc).1.1, T u := by
 have h0 : ok1 n [h] := ⟨by simp, fun v hv => by simp at hv; omega⟩
 obtain ⟨i1, i2, i3, _⟩ := lop_ok (R := R) (st := st) (h := h) (fun v hv => (hsc v hv).1) n [h] h0
 have h1 : ∀ u ∈ (lop R n st h sc n [h]).1, T u := fun u hu => (i3 u hu).elim (fun hu => by simp at hu; exact hu ▸ hh) fun hu => (hsc u hu).2
 unfold fnd
 split
 ·obtain ⟨j1, j2, j3⟩ := bls_inv (R := R) (st := st) hp hT (l := cnd R n (lop R n st h sc n [h]).1 st) (q := ((lop R n st h sc n [h]).1, [])) (fun v hv => ⟨(cnd_lt hv).1, h1 v (cnd_lt hv).2.1⟩) i1 h1
  exact ⟨j1, pre_trans i2 j2, j3⟩
 ·exact ⟨i1, i2, h1⟩
end
end Go.Proofs.Ytkbkmngbenohkaa

namespace Go.Proofs.Ytkbkmngbenohkaa
open Go.RowKit

theorem getD_02 {st : List Int} {v : Nat} (h : v < st.length) : st.getD v 0 = st.getD v 2 := by
  rw [List.getD_eq_getElem?_getD, List.getD_eq_getElem?_getD, List.getElem?_eq_getElem h]; rfl
theorem getD_2n {st : List Int} {v : Nat} (h : ¬ v < st.length) : st.getD v 2 = 2 := by
  rw [List.getD_eq_getElem?_getD, List.getElem?_eq_none (by omega)]; rfl
theorem nsl_snoc (l : List Nat) (v : Nat) : nsl l ++ [PV.v (.int .i64 (v : Int))] = nsl (l ++ [v]) := nsl_append l [v]
theorem ttest_spec (st : List Int) (ord : List Nat) (v : Nat) (h1 : st.length ≤ 4611686018427387904) (h2 : ord.length ≤ 1000) :
    Spec Try.prog 73 (inStI [.ptr (0, 9) 0, .v (.int .i64 (v : Int))] [((0, 9), .box 93 [.sl st.length (isl st), .ref (1, 9) 0 ord.length]), ((1, 9), .row 3 1 (nsl ord))])
      (outStI (.v (.int .i64 (st.getD v 2))) [((0, 9), .box 93 [.sl st.length (isl st), .ref (1, 8) 0 (ord ++ [v]).length]), ((1, 8), .row 3 1 (nsl (ord ++ [v])))] [(0, 9), (1, 8)] [(0, 9)]) := by
  have hol : (ord ++ [v]).length = ord.length + 1 := by simp
  refine Spec.ofNI Try.func73 rfl Try.ntmps73 rfl ?_
  refine D_seq fun K1 hK1 => ?_
  refine D_region ?_
  refine DL_c (asI rfl) ?_
  refine DL_nil (hK1 _ ?_)
  clear hK1; try clear K1
  refine D_seq fun K2 hK2 => ?_
  refine D_region ?_
  refine DL_c (op_mv _ (rfl : _ = AV.ptr _ _)) ?_
  refine DL_c (op_mv _ (rfl : _ = AV.ptr _ _)) ?_
  refine DL_c (op_nilp _ rfl rfl) ?_
  refine DL_c (op_fldP _ inferInstance rfl rfl rfl) ?_
  refine DL_c (op_ldB _ inferInstance rfl rfl (rfl : _ = some (AV.ref _ _ _))) ?_
  refine DL_c (mvI rfl) ?_
  refine DL_c (op_bsF _ _ inferInstance rfl (by rfl) (by simp <;> rfl) (by decide) rfl) ?_
  refine DL_c (op_ap (12, 0) _ _ inferInstance rfl rfl (by (simp only [isl_len, bsl_len, psl_len, mrows_len, nsl_len, ws_len, List.length_map, ul_len, psl_len, isl_len, nrows_len, mmap_len]; omega)) (by (refine .sl ?_; (simp [isl]; done))) (by omega) rfl (rfl) (rfl)) ?_
  refine DL_c (op_nilp _ rfl rfl) ?_
  refine DL_c (op_fldP _ inferInstance rfl rfl rfl) ?_
  refine DL_c (op_stB _ _ inferInstance rfl rfl rfl rfl (Nat.le_of_ble_eq_true rfl) rfl) ?_
  refine DL_nil (hK2 _ ?_)
  clear hK2; try clear K2
  refine D_seq fun K3 hK3 => ?_
  refine D_seq fun K4 hK4 => ?_
  refine D_region ?_
  refine DL_c (mvI rfl) ?_
  refine DL_c (op_lss _ _ rfl rfl rfl) ?_
  refine DL_c (mvB rfl) ?_
  refine DL_caseC (fun hg17 => ?_) (fun hg17 => ?_)
  · skip
    exact absurd  hg17 (by omega)
  · skip
    refine DL_cy rfl rfl (mvI rfl) ?_
    refine DL_cy rfl rfl (op_mv _ (rfl : _ = AV.ptr _ _)) ?_
    refine DL_cy rfl rfl (op_nilp _ rfl rfl) ?_
    refine DL_cy rfl rfl (op_fldP _ inferInstance rfl rfl rfl) ?_
    refine DL_cy rfl rfl (op_ldB _ inferInstance rfl rfl (rfl : _ = some (AV.sl _ _))) ?_
    refine DL_cy rfl rfl (op_lenS _ inferInstance rfl) ?_
    refine DL_cy rfl rfl (op_geq _ _ rfl rfl rfl) ?_
    refine DL_c (op_pick _ _ _ rfl (rfl : _ = AV.v (.bool _))) ?_
    refine DL_nil (hK4 _ ?_)
    clear hK4; try clear K4
    refine D_splitC rfl (fun hc25 => ?_) (fun hc25 => ?_)
    · skip
      refine D_seq fun K5 hK5 => ?_
      refine D_le (σ' := mkStI 33 [] [((0, 9), _), ((12, 0), _)] [(0, 9), (12, 0)] [(0, 9)]) (by
        refine Le.mkJ [] [] rfl ?_ ?_ trivial ⟨rfl, trivial⟩ ?_
        · exact trivial
        · exact ⟨(obE rfl rfl rfl), (obE rfl rfl rfl), trivial⟩
        · kernel_rfl) ?_
      refine D_region ?_
      refine DL_c (asI rfl) ?_
      refine DL_nil (hK5 _ ?_)
      clear hK5; try clear K5
      refine D_ret ?_
      have hr := getD_2n (st := st) (v := v) (by omega)
      exact ret1 (.inr rfl) rfl (.tmp (rfl : _ = AV.v (.int _ _))) (Le.outI [((1, 8), (12, 0))] [] (lvI (by rw [hr])) rfl rfl rfl trivial ⟨⟨rfl, ⟨_, rfl, .box rfl (lv_cons .sl (lv_cons (lvRr rfl hol) lv_nil))⟩, rfl⟩, ⟨rfl, ⟨_, rfl, .rowE (nsl_snoc _ _)⟩, rfl⟩, trivial⟩ ⟨rfl, trivial⟩ rfl)
    · skip
      refine D_skip (hK3 _ ?_)
      clear hK3; try clear K3
      refine D_seq fun K6 hK6 => ?_
      refine D_le (σ' := mkStI 33 [(0, _), (1, _)] [((0, 9), _), ((12, 0), _)] [(0, 9), (12, 0)] [(0, 9)]) (by
        refine Le.mkJ [] [] rfl ?_ ?_ trivial ⟨rfl, trivial⟩ ?_
        · exact ⟨(iP rfl), (iV rfl), trivial⟩
        · exact ⟨(obE rfl rfl rfl), (obE rfl rfl rfl), trivial⟩
        · kernel_rfl) ?_
      refine D_region ?_
      refine DL_c (op_mv _ (rfl : _ = AV.ptr _ _)) ?_
      refine DL_c (op_nilp _ rfl rfl) ?_
      refine DL_c (op_fldP _ inferInstance rfl rfl rfl) ?_
      refine DL_c (op_ldB _ inferInstance rfl rfl (rfl : _ = some (AV.sl _ _))) ?_
      refine DL_c (mvI rfl) ?_
      refine DL_c (op_ixS _ _ inferInstance rfl rfl _ rfl (by omega) (by (simp only [isl_len, bsl_len, psl_len, mrows_len, nsl_len, ws_len, List.length_map, ul_len, psl_len, isl_len, nrows_len, mmap_len]; omega)) (by exact Nat.mul_one _)) ?_
      refine DL_c (op_ldF _ inferInstance rfl (by exact isl_get _ _ (by omega)) rfl) ?_
      refine DL_c (asI rfl) ?_
      refine DL_nil (hK6 _ ?_)
      clear hK6; try clear K6
      refine D_ret ?_
      have hr := getD_02 (st := st) (v := v) (by omega)
      exact ret1 (.inr rfl) rfl (.tmp (rfl : _ = AV.v (.int _ _))) (Le.outI [((1, 8), (12, 0))] [] (lvI (by exact hr.symm)) rfl rfl rfl trivial ⟨⟨rfl, ⟨_, rfl, .box rfl (lv_cons .sl (lv_cons (lvRr rfl hol) lv_nil))⟩, rfl⟩, ⟨rfl, ⟨_, rfl, .rowE (nsl_snoc _ _)⟩, rfl⟩, trivial⟩ ⟨rfl, trivial⟩ rfl)
abbrev SSO (n : Nat) (P A : List Nat) (h : Nat) (sc : List Nat) (st : List Int) (ord : List Nat) : List (Oid × Cells) :=
  [((0, 9), .box 136 [.fp 0 (gra n P A), .v (.int .i64 (h : Int)), .sl sc.length (nsl sc), .fn (.func 73) [.ptr (3, 9) 0] [], .mp (1, 9), .ref (2, 8) 0 ord.length]),
   ((1, 9), .mp (ment (mmap st ord)) (mmap st ord).length), ((2, 8), .row 3 1 (nsl ord)), ((3, 9), .box 93 [.sl st.length (isl st), .ref (4, 8) 0 ord.length]), ((4, 8), .row 3 1 (nsl ord))]
abbrev I5o : List Oid := [(0, 9), (1, 9), (2, 8), (3, 9), (4, 8)]
abbrev P3 : List Oid := [(0, 9), (1, 9), (3, 9)]
theorem try_known (n : Nat) (P A : List Nat) (h : Nat) (sc : List Nat) (st : List Int) (ord : List Nat) (v : Nat) (hv : v ∈ ord) :
    Spec Try.prog 107 (inStI [.ptr (0, 9) 0, .v (.int .i64 (v : Int))] (SSL n P A h sc st ord)) (outStI (.v (.int .i64 (nst st v))) (SSO n P A h sc st ord) I5o P3) := by
  have hm := mmap_some (st := st) hv
  refine Spec.ofNI Try.func107 rfl Try.ntmps107 rfl ?_
  refine D_seq fun K1 hK1 => ?_
  refine D_region ?_
  refine DL_c (asI rfl) ?_
  refine DL_nil (hK1 _ ?_)
  clear hK1; try clear K1
  refine D_seq fun K2 hK2 => ?_
  refine D_seq fun K3 hK3 => ?_
  refine D_region ?_
  refine DL_c (op_mv _ (rfl : _ = AV.ptr _ _)) ?_
  refine DL_c (op_nilp _ rfl rfl) ?_
  refine DL_c (op_fldP _ inferInstance rfl rfl rfl) ?_
  refine DL_c (op_ldB _ inferInstance rfl rfl (rfl : _ = some (AV.mp _))) ?_
  refine DL_c (mvI rfl) ?_
  refine DL_c (op_lookM _ _ Try.underlying134 Try.underlying3 Try.zeroValue3 rfl rfl rfl hm) ?_
  refine DL_c (op_mv _ (rfl : _ = AV.tup _)) ?_
  refine DL_c (op_ext _ rfl (rfl : _ = some (AV.v (.int _ _)))) ?_
  refine DL_c (op_ext _ rfl (rfl : _ = some (AV.v (.bool _)))) ?_
  refine DL_c (asI rfl) ?_
  refine DL_c (asB rfl) ?_
  refine DL_nil (hK3 _ ?_)
  clear hK3; try clear K3
  refine D_seq fun K4 hK4 => ?_
  refine D_region ?_
  refine DL_c (mvB rfl) ?_
  refine DL_nil (hK4 _ ?_)
  clear hK4; try clear K4
  refine D_cT rfl rfl ?_
  refine D_seq fun K5 hK5 => ?_
  refine D_region ?_
  refine DL_c (mvI rfl) ?_
  refine DL_c (asI rfl) ?_
  refine DL_nil (hK5 _ ?_)
  clear hK5; try clear K5
  refine D_ret ?_
  exact ret1 (.inr rfl) rfl (.tmp (rfl : _ = AV.v _)) (Le.outI [((2, 8), (2, 9)), ((4, 8), (4, 9))] [] (lvI rfl) rfl rfl rfl trivial ⟨⟨rfl, ⟨_, rfl, .box rfl (lv_cons .fp (lv_cons .v (lv_cons .sl (lv_cons (.fn rfl (lv_cons (lvPr rfl) lv_nil) rfl lv_nil) (lv_cons .mp (lv_cons (lvRr rfl rfl) lv_nil))))))⟩, rfl⟩, ⟨rfl, ⟨_, rfl, .mp⟩, rfl⟩, ⟨rfl, ⟨_, rfl, .rowE rfl⟩, rfl⟩, ⟨rfl, ⟨_, rfl, .box rfl (lv_cons .sl (lv_cons (lvRr rfl rfl) lv_nil))⟩, rfl⟩, ⟨rfl, ⟨_, rfl, .rowE rfl⟩, rfl⟩, trivial⟩ ⟨rfl, rfl, rfl, trivial⟩ rfl)
theorem mmap_app' {st : List Int} {ord : List Nat} {v : Nat} {u : Int} (hu : u = nst st v) : mmap st ord ++ [((v : Int), .int .i64 u)] = mmap st (ord ++ [v]) := by rw [hu]; exact mmap_app st ord v
set_option maxHeartbeats 1000000 in
theorem try_new (n : Nat) (P A : List Nat) (h : Nat) (sc : List Nat) (st : List Int) (h1 : st.length ≤ 4611686018427387904) (ord : List Nat) (h2 : ord.length ≤ 1000) (v : Nat) (hv : v ∉ ord) :
    Spec Try.prog 107 (inStI [.ptr (0, 9) 0, .v (.int .i64 (v : Int))] (SSL n P A h sc st ord)) (outStI (.v (.int .i64 (nst st v))) (SSO n P A h sc st (ord ++ [v])) I5o P3) := by
  have hm := mmap_none (st := st) hv
  have hol : (ord ++ [v]).length = ord.length + 1 := by simp
  refine Spec.ofNI Try.func107 rfl Try.ntmps107 rfl ?_
  refine D_seq fun K1 hK1 => ?_
  refine D_region ?_
  refine DL_c (asI rfl) ?_
  refine DL_nil (hK1 _ ?_)
  clear hK1; try clear K1
  refine D_seq fun K2 hK2 => ?_
  refine D_seq fun K3 hK3 => ?_
  refine D_region ?_
  refine DL_c (op_mv _ (rfl : _ = AV.ptr _ _)) ?_
  refine DL_c (op_nilp _ rfl rfl) ?_
  refine DL_c (op_fldP _ inferInstance rfl rfl rfl) ?_
  refine DL_c (op_ldB _ inferInstance rfl rfl (rfl : _ = some (AV.mp _))) ?_
  refine DL_c (mvI rfl) ?_
  refine DL_c (op_lookM _ _ Try.underlying134 Try.underlying3 Try.zeroValue3 rfl rfl rfl hm) ?_
  refine DL_c (op_mv _ (rfl : _ = AV.tup _)) ?_
  refine DL_c (op_ext _ rfl (rfl : _ = some (AV.v (.int _ _)))) ?_
  refine DL_c (op_ext _ rfl (rfl : _ = some (AV.v (.bool _)))) ?_
  refine DL_c (asI rfl) ?_
  refine DL_c (asB rfl) ?_
  refine DL_nil (hK3 _ ?_)
  clear hK3; try clear K3
  refine D_seq fun K4 hK4 => ?_
  refine D_region ?_
  refine DL_c (mvB rfl) ?_
  refine DL_nil (hK4 _ ?_)
  clear hK4; try clear K4
  refine D_cF rfl rfl ?_
  refine D_skip (hK2 _ ?_)
  clear hK2; try clear K2
  refine D_seq fun K5 hK5 => ?_
  refine D_region ?_
  refine DL_c (op_mv _ (rfl : _ = AV.ptr _ _)) ?_
  refine DL_c (op_nilp _ rfl rfl) ?_
  refine DL_c (op_fldP _ inferInstance rfl rfl rfl) ?_
  refine DL_c (op_ldB _ inferInstance rfl rfl (rfl : _ = some (AV.fn _ _ _))) ?_
  refine DL_c (mvI rfl) ?_
  refine DL_c (op_callPV rfl inferInstance [((0, 9), (3, 9)), ((1, 9), (4, 9)), ((1, 8), (60, 0))] ?_ (ttest_spec st ord v h1 h2) ⟨⟨rfl, ⟨_, rfl, .box rfl (lv_cons .sl (lv_cons (lvRr rfl rfl) lv_nil))⟩, rfl⟩, ⟨rfl, ⟨_, rfl, .rowE rfl⟩, rfl⟩, trivial⟩ ⟨rfl, rfl, trivial⟩ (by kernel_rfl)) ?_
  · repeat' (first | exact argsR_nil | refine argsR_cons ?_ ?_ | exact Lv.v | exact lvPr rfl)
  refine DL_c (asI rfl) ?_
  refine DL_nil (hK5 _ ?_)
  clear hK5; try clear K5
  refine D_seq fun K6 hK6 => ?_
  refine D_seq fun K7 hK7 => ?_
  refine D_le (σ' := mkStI 48 [(0, _), (1, _), (7, _)] [((0, 9), _), ((1, 9), _), ((2, 9), _), ((3, 9), _), ((60, 0), _)] [(0, 9), (1, 9), (2, 9), (3, 9), (60, 0)] [(0, 9), (1, 9), (3, 9)]) (by
    refine Le.mkJ [] [] rfl ?_ ?_ trivial ⟨rfl, rfl, rfl, trivial⟩ ?_
    · exact ⟨(iP rfl), (iV rfl), (iV rfl), trivial⟩
    · exact ⟨(obE rfl rfl rfl), (obE rfl rfl rfl), (obE rfl rfl rfl), (obE rfl rfl rfl), (obE rfl rfl rfl), trivial⟩
    · kernel_rfl) ?_
  refine D_region ?_
  refine DL_c (mvI rfl) ?_
  refine DL_c (op_neq _ _ rfl rfl rfl) ?_
  refine DL_c (mvB rfl) ?_
  refine DL_caseC (fun hg27 => ?_) (fun hg27 => ?_)
  · skip
    refine DL_cy rfl rfl (mvI rfl) ?_
    refine DL_cy rfl rfl (op_neq _ _ rfl rfl rfl) ?_
    refine DL_c (op_pick _ _ _ rfl (rfl : _ = AV.v (.bool _))) ?_
    refine DL_nil (hK7 _ ?_)
    clear hK7; try clear K7
    refine D_splitC rfl (fun hc30 => ?_) (fun hc30 => ?_)
    · skip
      have hnx : (2 : Int) = nst st v := by unfold nst; rw [if_pos ⟨hg27, hc30⟩]
      refine D_region ?_
      refine DL_c (asI rfl) ?_
      refine DL_nil (hK6 _ ?_)
      clear hK6; try clear K6
      refine D_seq fun K8 hK8 => ?_
      refine D_region ?_
      refine DL_c (op_mv _ (rfl : _ = AV.ptr _ _)) ?_
      refine DL_c (op_nilp _ rfl rfl) ?_
      refine DL_c (op_fldP _ inferInstance rfl rfl rfl) ?_
      refine DL_c (op_ldB _ inferInstance rfl rfl (rfl : _ = some (AV.mp _))) ?_
      refine DL_c (mvI rfl) ?_
      refine DL_c (mvI rfl) ?_
      refine DL_c (op_updM _ _ _ Try.underlying134 Try.underlying3 rfl rfl rfl rfl rfl hm (mmap_app' hnx) rfl) ?_
      refine DL_nil (hK8 _ ?_)
      clear hK8; try clear K8
      refine D_seq fun K9 hK9 => ?_
      refine D_region ?_
      refine DL_c (op_mv _ (rfl : _ = AV.ptr _ _)) ?_
      refine DL_c (op_mv _ (rfl : _ = AV.ptr _ _)) ?_
      refine DL_c (op_nilp _ rfl rfl) ?_
      refine DL_c (op_fldP _ inferInstance rfl rfl rfl) ?_
      refine DL_c (op_ldB _ inferInstance rfl rfl (rfl : _ = some (AV.ref _ _ _))) ?_
      refine DL_c (mvI rfl) ?_
      refine DL_c (op_bsF _ _ inferInstance rfl (by rfl) (by simp <;> rfl) (by decide) rfl) ?_
      refine DL_c (op_ap (44, 0) _ _ inferInstance rfl rfl (by (simp only [isl_len, bsl_len, psl_len, mrows_len, nsl_len, ws_len, List.length_map, ul_len, psl_len, isl_len, nrows_len, mmap_len]; omega)) (by (refine .sl ?_; (simp [isl]; done))) (by omega) rfl (rfl) (rfl)) ?_
      refine DL_c (op_nilp _ rfl rfl) ?_
      refine DL_c (op_fldP _ inferInstance rfl rfl rfl) ?_
      refine DL_c (op_stB _ _ inferInstance rfl rfl rfl rfl (Nat.le_of_ble_eq_true rfl) rfl) ?_
      refine DL_nil (hK9 _ ?_)
      clear hK9; try clear K9
      refine D_seq fun K10 hK10 => ?_
      refine D_le (σ' := mkStI 48 [(7, _)] [((0, 9), _), ((1, 9), _), ((3, 9), _), ((60, 0), _), ((44, 0), _)] [(0, 9), (1, 9), (3, 9), (60, 0), (44, 0)] [(0, 9), (1, 9), (3, 9)]) (by
        refine Le.mkJ [] [] rfl ?_ ?_ trivial ⟨rfl, rfl, rfl, trivial⟩ ?_
        · exact ⟨(iV rfl), trivial⟩
        · exact ⟨(obE rfl rfl rfl), (obE rfl rfl rfl), (obE rfl rfl rfl), (obE rfl rfl rfl), (obE rfl rfl rfl), trivial⟩
        · kernel_rfl) ?_
      refine D_region ?_
      refine DL_c (mvI rfl) ?_
      refine DL_c (asI rfl) ?_
      refine DL_nil (hK10 _ ?_)
      clear hK10; try clear K10
      refine D_ret ?_
      exact ret1 (.inr rfl) rfl (.tmp (rfl : _ = AV.v (.int _ _))) (Le.outI [((2, 8), (44, 0)), ((4, 8), (60, 0))] [] (lvI hnx.symm) rfl rfl rfl trivial ⟨⟨rfl, ⟨_, rfl, .box rfl (lv_cons .fp (lv_cons .v (lv_cons .sl (lv_cons (.fn rfl (lv_cons (lvPr rfl) lv_nil) rfl lv_nil) (lv_cons .mp (lv_cons (lvRr rfl hol) lv_nil))))))⟩, rfl⟩, ⟨rfl, ⟨_, rfl, .mp⟩, rfl⟩, ⟨rfl, ⟨_, rfl, .rowE (nsl_snoc _ _)⟩, rfl⟩, ⟨rfl, ⟨_, rfl, .box rfl (lv_cons .sl (lv_cons (lvRr rfl rfl) lv_nil))⟩, rfl⟩, ⟨rfl, ⟨_, rfl, .rowE rfl⟩, rfl⟩, trivial⟩ ⟨rfl, rfl, rfl, trivial⟩ rfl)
    · skip
      have hnx : st.getD v 2 = nst st v := by unfold nst; rw [if_neg (fun h => h.2 hc30)]
      refine D_skip (hK6 _ ?_)
      clear hK6; try clear K6
      refine D_seq fun K11 hK11 => ?_
      refine D_region ?_
      refine DL_c (op_mv _ (rfl : _ = AV.ptr _ _)) ?_
      refine DL_c (op_nilp _ rfl rfl) ?_
      refine DL_c (op_fldP _ inferInstance rfl rfl rfl) ?_
      refine DL_c (op_ldB _ inferInstance rfl rfl (rfl : _ = some (AV.mp _))) ?_
      refine DL_c (mvI rfl) ?_
      refine DL_c (mvI rfl) ?_
      refine DL_c (op_updM _ _ _ Try.underlying134 Try.underlying3 rfl rfl rfl rfl rfl hm (mmap_app' hnx) rfl) ?_
      refine DL_nil (hK11 _ ?_)
      clear hK11; try clear K11
      refine D_seq fun K12 hK12 => ?_
      refine D_region ?_
      refine DL_c (op_mv _ (rfl : _ = AV.ptr _ _)) ?_
      refine DL_c (op_mv _ (rfl : _ = AV.ptr _ _)) ?_
      refine DL_c (op_nilp _ rfl rfl) ?_
      refine DL_c (op_fldP _ inferInstance rfl rfl rfl) ?_
      refine DL_c (op_ldB _ inferInstance rfl rfl (rfl : _ = some (AV.ref _ _ _))) ?_
      refine DL_c (mvI rfl) ?_
      refine DL_c (op_bsF _ _ inferInstance rfl (by rfl) (by simp <;> rfl) (by decide) rfl) ?_
      refine DL_c (op_ap (44, 0) _ _ inferInstance rfl rfl (by (simp only [isl_len, bsl_len, psl_len, mrows_len, nsl_len, ws_len, List.length_map, ul_len, psl_len, isl_len, nrows_len, mmap_len]; omega)) (by (refine .sl ?_; (simp [isl]; done))) (by omega) rfl (rfl) (rfl)) ?_
      refine DL_c (op_nilp _ rfl rfl) ?_
      refine DL_c (op_fldP _ inferInstance rfl rfl rfl) ?_
      refine DL_c (op_stB _ _ inferInstance rfl rfl rfl rfl (Nat.le_of_ble_eq_true rfl) rfl) ?_
      refine DL_nil (hK12 _ ?_)
      clear hK12; try clear K12
      refine D_seq fun K13 hK13 => ?_
      refine D_le (σ' := mkStI 48 [(7, _)] [((0, 9), _), ((1, 9), _), ((3, 9), _), ((60, 0), _), ((44, 0), _)] [(0, 9), (1, 9), (3, 9), (60, 0), (44, 0)] [(0, 9), (1, 9), (3, 9)]) (by
        refine Le.mkJ [] [] rfl ?_ ?_ trivial ⟨rfl, rfl, rfl, trivial⟩ ?_
        · exact ⟨(iV rfl), trivial⟩
        · exact ⟨(obE rfl rfl rfl), (obE rfl rfl rfl), (obE rfl rfl rfl), (obE rfl rfl rfl), (obE rfl rfl rfl), trivial⟩
        · kernel_rfl) ?_
      refine D_region ?_
      refine DL_c (mvI rfl) ?_
      refine DL_c (asI rfl) ?_
      refine DL_nil (hK13 _ ?_)
      clear hK13; try clear K13
      refine D_ret ?_
      exact ret1 (.inr rfl) rfl (.tmp (rfl : _ = AV.v (.int _ _))) (Le.outI [((2, 8), (44, 0)), ((4, 8), (60, 0))] [] (lvI hnx.symm) rfl rfl rfl trivial ⟨⟨rfl, ⟨_, rfl, .box rfl (lv_cons .fp (lv_cons .v (lv_cons .sl (lv_cons (.fn rfl (lv_cons (lvPr rfl) lv_nil) rfl lv_nil) (lv_cons .mp (lv_cons (lvRr rfl hol) lv_nil))))))⟩, rfl⟩, ⟨rfl, ⟨_, rfl, .mp⟩, rfl⟩, ⟨rfl, ⟨_, rfl, .rowE (nsl_snoc _ _)⟩, rfl⟩, ⟨rfl, ⟨_, rfl, .box rfl (lv_cons .sl (lv_cons (lvRr rfl rfl) lv_nil))⟩, rfl⟩, ⟨rfl, ⟨_, rfl, .rowE rfl⟩, rfl⟩, trivial⟩ ⟨rfl, rfl, rfl, trivial⟩ rfl)
  · skip
    have hnx : st.getD v 2 = nst st v := by unfold nst; rw [if_neg (fun h => h.1 hg27)]
    refine DL_cn rfl rfl (by decide) ?_
    refine DL_cn rfl rfl (by decide) ?_
    refine DL_c (op_pick _ _ _ rfl (rfl : _ = AV.v (.bool _))) ?_
    refine DL_nil (hK7 _ ?_)
    clear hK7; try clear K7
    refine D_cF rfl rfl ?_
    refine D_skip (hK6 _ ?_)
    clear hK6; try clear K6
    refine D_seq fun K14 hK14 => ?_
    refine D_region ?_
    refine DL_c (op_mv _ (rfl : _ = AV.ptr _ _)) ?_
    refine DL_c (op_nilp _ rfl rfl) ?_
    refine DL_c (op_fldP _ inferInstance rfl rfl rfl) ?_
    refine DL_c (op_ldB _ inferInstance rfl rfl (rfl : _ = some (AV.mp _))) ?_
    refine DL_c (mvI rfl) ?_
    refine DL_c (mvI rfl) ?_
    refine DL_c (op_updM _ _ _ Try.underlying134 Try.underlying3 rfl rfl rfl rfl rfl hm (mmap_app' hnx) rfl) ?_
    refine DL_nil (hK14 _ ?_)
    clear hK14; try clear K14
    refine D_seq fun K15 hK15 => ?_
    refine D_region ?_
    refine DL_c (op_mv _ (rfl : _ = AV.ptr _ _)) ?_
    refine DL_c (op_mv _ (rfl : _ = AV.ptr _ _)) ?_
    refine DL_c (op_nilp _ rfl rfl) ?_
    refine DL_c (op_fldP _ inferInstance rfl rfl rfl) ?_
    refine DL_c (op_ldB _ inferInstance rfl rfl (rfl : _ = some (AV.ref _ _ _))) ?_
    refine DL_c (mvI rfl) ?_
    refine DL_c (op_bsF _ _ inferInstance rfl (by rfl) (by simp <;> rfl) (by decide) rfl) ?_
    refine DL_c (op_ap (44, 0) _ _ inferInstance rfl rfl (by (simp only [isl_len, bsl_len, psl_len, mrows_len, nsl_len, ws_len, List.length_map, ul_len, psl_len, isl_len, nrows_len, mmap_len]; omega)) (by (refine .sl ?_; (simp [isl]; done))) (by omega) rfl (rfl) (rfl)) ?_
    refine DL_c (op_nilp _ rfl rfl) ?_
    refine DL_c (op_fldP _ inferInstance rfl rfl rfl) ?_
    refine DL_c (op_stB _ _ inferInstance rfl rfl rfl rfl (Nat.le_of_ble_eq_true rfl) rfl) ?_
    refine DL_nil (hK15 _ ?_)
    clear hK15; try clear K15
    refine D_seq fun K16 hK16 => ?_
    refine D_le (σ' := mkStI 48 [(7, _)] [((0, 9), _), ((1, 9), _), ((3, 9), _), ((60, 0), _), ((44, 0), _)] [(0, 9), (1, 9), (3, 9), (60, 0), (44, 0)] [(0, 9), (1, 9), (3, 9)]) (by
      refine Le.mkJ [] [] rfl ?_ ?_ trivial ⟨rfl, rfl, rfl, trivial⟩ ?_
      · exact ⟨(iV rfl), trivial⟩
      · exact ⟨(obE rfl rfl rfl), (obE rfl rfl rfl), (obE rfl rfl rfl), (obE rfl rfl rfl), (obE rfl rfl rfl), trivial⟩
      · kernel_rfl) ?_
    refine D_region ?_
    refine DL_c (mvI rfl) ?_
    refine DL_c (asI rfl) ?_
    refine DL_nil (hK16 _ ?_)
    clear hK16; try clear K16
    refine D_ret ?_
    exact ret1 (.inr rfl) rfl (.tmp (rfl : _ = AV.v (.int _ _))) (Le.outI [((2, 8), (44, 0)), ((4, 8), (60, 0))] [] (lvI hnx.symm) rfl rfl rfl trivial ⟨⟨rfl, ⟨_, rfl, .box rfl (lv_cons .fp (lv_cons .v (lv_cons .sl (lv_cons (.fn rfl (lv_cons (lvPr rfl) lv_nil) rfl lv_nil) (lv_cons .mp (lv_cons (lvRr rfl hol) lv_nil))))))⟩, rfl⟩, ⟨rfl, ⟨_, rfl, .mp⟩, rfl⟩, ⟨rfl, ⟨_, rfl, .rowE (nsl_snoc _ _)⟩, rfl⟩, ⟨rfl, ⟨_, rfl, .box rfl (lv_cons .sl (lv_cons (lvRr rfl rfl) lv_nil))⟩, rfl⟩, ⟨rfl, ⟨_, rfl, .rowE rfl⟩, rfl⟩, trivial⟩ ⟨rfl, rfl, rfl, trivial⟩ rfl)
theorem try_spec (n : Nat) (P A : List Nat) (hn : n ≤ 64) (h : Nat) (sc : List Nat) (st : List Int) (h1 : st.length ≤ 4611686018427387904) (ord : List Nat) (ho : ok1 n ord) (v : Nat) :
    Spec Try.prog 107 (inStI [.ptr (0, 9) 0, .v (.int .i64 (v : Int))] (SSL n P A h sc st ord)) (outStI (.v (.int .i64 (nst st v))) (SSO n P A h sc st (adN ord v)) I5o P3) := by
  have := ho.len
  unfold adN
  split
  · rename_i hv; exact try_known n P A h sc st ord v hv
  · rename_i hv; exact try_new n P A h sc st h1 ord (by omega) v hv
end Go.Proofs.Ytkbkmngbenohkaa
