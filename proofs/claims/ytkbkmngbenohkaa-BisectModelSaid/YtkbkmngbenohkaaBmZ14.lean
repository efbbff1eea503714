/- Part 14 of the texts that the walk leans on: the machine, the walks, the plain laws. -/
import Derived.Test.YtkbkmngbenohkaaBmZ13
set_option linter.unusedSimpArgs false
set_option linter.unusedVariables false
namespace Go.Proofs.Ytkbkmngbenohkaa
open Go.RowKit

abbrev rS (n : Nat) (Ps : List (List Int)) (h : Nat) (st : List Int) (ord : List Nat) : AV := .agg [.sl n (nrows Ps), .v (.int .i64 (h : Int)), .sl n (isl st), .sl ord.length (nsl ord)]
noncomputable abbrev Rn (n : Nat) (Ps : List (List Int)) : Rl := anR n (ancW n (edg Ps n 0))
theorem ranc33_spec {n : Nat} {Ps : List (List Int)} (hG : GG n Ps) (h : Nat) (st : List Int) (ord : List Nat) (a v : Nat) :
  Spec Try.prog 136 (inSt [rS n Ps h st ord, .v (.int .i64 (a : Int)), .v (.int .i64 (v : Int))] []) (outSt (.v (.bool (Rn n Ps a v))) []) := by
 have hA := rancN_spec n Ps hG v
 have hul := upE_len Ps v
 have hH := hasNN_spec (upE Ps v).length (upE Ps v) a rfl (by omega)
 have e : decide (a ∈ upE Ps v) = Rn n Ps a v := by rw [Bool.eq_iff_iff, decide_eq_true_eq, anR_iff hG.len]
 rw [e] at hH
 refine Spec.ofN Try.func136 rfl Try.ntmps136 rfl ?_
 refine D_seq fun K1 hK1 => ?_
 refine D_region ?_
 refine DL_c (op_box (3, 0) _ rfl rfl) ?_
 refine DL_c (asB rfl) ?_
 refine DL_nil (hK1 _ ?_)
 clear hK1; try clear K1
 refine D_seq fun K2 hK2 => ?_
 refine D_region ?_
 refine DL_c (op_fldP _ inferInstance rfl rfl rfl) ?_
 refine DL_c (op_ldB _ inferInstance rfl rfl (rfl : _ = some (AV.sl _ _))) ?_
 refine DL_c (mvI rfl) ?_
 refine DL_c (op_callH inferInstance (by repeat' (first | exact argsLv_nil | refine argsLv_cons ?_ ?_ | exact Lv.v | exact Lv.sl)) (hA) rfl rfl) ?_
 refine DL_c (mvI rfl) ?_
 refine DL_c (op_callH inferInstance (by repeat' (first | exact argsLv_nil | refine argsLv_cons ?_ ?_ | exact Lv.v | exact Lv.sl)) (hH) rfl rfl) ?_
 refine DL_c (asB rfl) ?_
 refine DL_nil (hK2 _ ?_)
 clear hK2; try clear K2
 refine D_ret ?_
 refine ret1 (.inr rfl) rfl (.tmp (rfl : _ = AV.v (.bool _))) (Le.out [] [] (lvB ?_) rfl rfl rfl trivial trivial)
 rfl
theorem rtest_spec {n : Nat} {Ps : List (List Int)} (h : Nat) (st : List Int) (ord : List Nat) (ho : ord.length ≤ 1000) (v : Nat) :
  Spec Try.prog 113 (inSt [rS n Ps h st ord, .v (.int .i64 (v : Int))] []) (outSt (rS n Ps h st (adN ord v)) []) := by
 have hH := hasNN_spec ord.length ord v rfl (by omega)
 by_cases hv : v ∈ ord
 ·rw [decide_eq_true hv] at hH
  rw [show adN ord v = ord from if_pos hv]
  refine Spec.ofN Try.func113 rfl Try.ntmps113 rfl ?_
  refine D_seq fun K1 hK1 => ?_
  refine D_region ?_
  refine DL_c (op_box (2, 0) _ rfl rfl) ?_
  refine DL_c (op_alloc (4, 0) inferInstance rfl rfl) ?_
  refine DL_nil (hK1 _ ?_)
  clear hK1; try clear K1
  refine D_seq fun K2 hK2 => ?_
  refine D_seq fun K3 hK3 => ?_
  refine D_region ?_
  refine DL_c (op_fldP _ inferInstance rfl rfl rfl) ?_
  refine DL_c (op_ldB _ inferInstance rfl rfl (rfl : _ = some (AV.sl _ _))) ?_
  refine DL_c (mvI rfl) ?_
  refine DL_c (op_callH inferInstance (by repeat' (first | exact argsLv_nil | refine argsLv_cons ?_ ?_ | exact Lv.v | exact Lv.sl)) (hH) rfl rfl) ?_
  refine DL_nil (hK3 _ ?_)
  clear hK3; try clear K3
  refine D_cT rfl rfl ?_
  refine D_seq fun K4 hK4 => ?_
  refine D_region ?_
  refine DL_c (op_ldBA _ inferInstance rfl rfl rfl rfl) ?_
  refine DL_c (op_stB _ _ inferInstance rfl rfl rfl rfl (Nat.le_of_ble_eq_true rfl) rfl) ?_
  refine DL_nil (hK4 _ ?_)
  clear hK4; try clear K4
  refine D_ret ?_
  exact ret1 (.inr rfl) rfl (.cellA inferInstance rfl rfl rfl) (Le.out [] [] (.agg rfl (lv_cons .sl (lv_cons .v (lv_cons .sl (lv_cons .sl lv_nil))))) rfl rfl rfl trivial trivial)
 ·rw [decide_eq_false hv] at hH
  rw [adN_new hv]
  refine Spec.ofN Try.func113 rfl Try.ntmps113 rfl ?_
  refine D_seq fun K1 hK1 => ?_
  refine D_region ?_
  refine DL_c (op_box (2, 0) _ rfl rfl) ?_
  refine DL_c (op_alloc (4, 0) inferInstance rfl rfl) ?_
  refine DL_nil (hK1 _ ?_)
  clear hK1; try clear K1
  refine D_seq fun K2 hK2 => ?_
  refine D_seq fun K3 hK3 => ?_
  refine D_region ?_
  refine DL_c (op_fldP _ inferInstance rfl rfl rfl) ?_
  refine DL_c (op_ldB _ inferInstance rfl rfl (rfl : _ = some (AV.sl _ _))) ?_
  refine DL_c (mvI rfl) ?_
  refine DL_c (op_callH inferInstance (by repeat' (first | exact argsLv_nil | refine argsLv_cons ?_ ?_ | exact Lv.v | exact Lv.sl)) (hH) rfl rfl) ?_
  refine DL_nil (hK3 _ ?_)
  clear hK3; try clear K3
  refine D_cF rfl rfl ?_
  refine D_skip (hK2 _ ?_)
  clear hK2; try clear K2
  refine D_seq fun K4 hK4 => ?_
  refine D_region ?_
  refine DL_c (op_as _ (rfl : _ = AV.v (.slice _ _ _))) ?_
  refine DL_nil (hK4 _ ?_)
  clear hK4; try clear K4
  refine D_seq fun K5 hK5 => ?_
  refine D_region ?_
  refine DL_c (op_mv _ (rfl : _ = AV.v (.slice _ _ _))) ?_
  refine DL_c (op_fldP _ inferInstance rfl rfl rfl) ?_
  refine DL_c (op_ldB _ inferInstance rfl rfl (rfl : _ = some (AV.sl _ _))) ?_
  refine DL_c (op_ap0 (14, 0) _ _ inferInstance rfl (.sl (by rw [nsl_len, Nat.mul_one])) (by omega) rfl) ?_
  refine DL_c (mvI rfl) ?_
  refine DL_c (op_bsF _ _ inferInstance rfl (by rfl) (by simp <;> rfl) (by decide) rfl) ?_
  refine DL_c (op_ap (17, 0) _ _ inferInstance rfl rfl (by rw [nsl_len, Nat.mul_one]) (.sl rfl) (by omega) rfl (nsl_snoc _ _) rfl) ?_
  refine DL_c (op_fldP _ inferInstance rfl rfl rfl) ?_
  refine DL_c (op_stB _ _ inferInstance rfl rfl rfl rfl (Nat.le_of_ble_eq_true rfl) rfl) ?_
  refine DL_nil (hK5 _ ?_)
  clear hK5; try clear K5
  refine D_seq fun K6 hK6 => ?_
  refine D_le (σ' := mkStI 20 [(2, _), (4, _)] [((2, 0), _), ((4, 0), _), ((17, 0), _)] [] []) (by
   refine Le.mkJ [] [] rfl ?_ ?_ trivial trivial ?_
   ·exact ⟨(iP rfl), (iP rfl), trivial⟩
   ·exact ⟨(obE rfl rfl rfl), (obE rfl rfl rfl), (obE rfl rfl rfl), trivial⟩
   ·kernel_rfl) ?_
  refine D_region ?_
  refine DL_c (op_ldBA _ inferInstance rfl rfl rfl rfl) ?_
  refine DL_c (op_stB _ _ inferInstance rfl rfl rfl rfl (Nat.le_of_ble_eq_true rfl) rfl) ?_
  refine DL_nil (hK6 _ ?_)
  clear hK6; try clear K6
  refine D_ret ?_
  exact ret1 (.inr rfl) rfl (.cellA inferInstance rfl rfl rfl) (Le.out [] [(17, 0)] (.agg rfl (lv_cons .sl (lv_cons .v (lv_cons .sl (lv_cons (lvFrz (by simp) rfl rfl (by rw [nsl_len]; simp)) lv_nil))))) rfl rfl rfl ⟨rfl, trivial⟩ trivial)
theorem con_iff {R : Rl} {n : Nat} {ord : List Nat} (ho : ok1 n ord) {st : List Int} : con R n ord st = true ↔ ∃ b ∈ ord, ∃ g ∈ ord, nst st b = 1 ∧ nst st g = 0 ∧ R b g = true := by
 unfold con
 simp only [List.any_eq_true]
 constructor
 ·rintro ⟨g, hg, b, hb, hr⟩
  exact ⟨b, (tst_mem.1 hb).2.1, g, (tst_mem.1 hg).2.1, (tst_mem.1 hb).2.2, (tst_mem.1 hg).2.2, hr⟩
 ·rintro ⟨b, hb, g, hg, h1, h0, hr⟩
  exact ⟨g, tst_mem.2 ⟨ho.2 g hg, hg, h0⟩, b, tst_mem.2 ⟨ho.2 b hb, hb, h1⟩, hr⟩
theorem stl_iff {R : Rl} {n : Nat} {ord : List Nat} (ho : ok1 n ord) {st : List Int} {h v : Nat} : stl R n ord st h v = true ↔ v ∈ ord ∨ ∃ t ∈ ord, (nst st t = 0 ∧ R v t = true) ∨ (t ≠ h ∧ nst st t = 1 ∧ R t v = true) := by
 unfold stl
 simp only [Bool.or_eq_true, decide_eq_true_eq, List.any_eq_true, Bool.and_eq_true]
 refine or_congr_right ⟨?_, ?_⟩
 ·rintro (⟨g, hg, hr⟩ | ⟨b, hb, hne, hr⟩)
  ·exact ⟨g, (tst_mem.1 hg).2.1, .inl ⟨(tst_mem.1 hg).2.2, hr⟩⟩
  ·exact ⟨b, (tst_mem.1 hb).2.1, .inr ⟨hne, (tst_mem.1 hb).2.2, hr⟩⟩
 ·rintro ⟨t, ht, ⟨h0, hr⟩ | ⟨hne, h1, hr⟩⟩
  ·exact .inl ⟨t, tst_mem.2 ⟨ho.2 t ht, ht, h0⟩, hr⟩
  ·exact .inr ⟨t, tst_mem.2 ⟨ho.2 t ht, ht, h1⟩, hne, hr⟩
section
variable {n : Nat} {Ps : List (List Int)} (hG : GG n Ps) (h : Nat) (st : List Int) (hst : st.length = n) (h012 : ∀ v, v < n → st.getD v 0 = 0 ∨ st.getD v 0 = 1 ∨ st.getD v 0 = 2) (ord : List Nat) (ho : ok1 n ord)
include hG hst h012 ho
theorem rcon_spec : Spec Try.prog 116 (inSt [rS n Ps h st ord] []) (outSt (.v (.bool (con (Rn n Ps) n ord st))) []) := by
 have hn := hG.n64
 have hol := ho.len
 have ha := fun a v => ranc33_spec hG h st ord a v
 have hci := con_iff (R := Rn n Ps) ho (st := st)
 have hns : ∀ v ∈ ord, nst st v = st.getD v 0 := fun v hv => nst_eq h012 hst (ho.2 v hv)
 generalize Rn n Ps = R at *
 refine Spec.ofN Try.func116 rfl Try.ntmps116 rfl ?_
 refine D_seq fun K1 hK1 => ?_
 refine D_region ?_
 refine DL_c (op_box (1, 0) _ rfl rfl) ?_
 refine DL_c (asB rfl) ?_
 refine DL_nil (hK1 _ ?_)
 clear hK1; try clear K1
 refine D_seq fun K2 hK2 => ?_
 refine D_seq fun K3 hK3 => ?_
 refine D_region ?_
 refine DL_c (asI rfl) ?_
 refine DL_nil (hK3 _ ?_)
 clear hK3; try clear K3
 refine D_block ?_
 refine D_loopL (α := Nat) (fun i => i ≤ ord.length ∧ ∀ j, j < i → ∀ q, q < ord.length → ¬ (st.getD (ord.getD j 0) 0 = 1 ∧ st.getD (ord.getD q 0) 0 = 0 ∧ R (ord.getD j 0) (ord.getD q 0) = true)) 55 [(1, _)] [((1, 0), _)] (fun i => [(3, .v (.int .i64 (i : Int)))]) (fun i => []) [] [] (fun i => ord.length - i) 0 ?_ (by
  refine Le.mkJ [] [] rfl ?_ ?_ trivial trivial ?_
  ·exact ⟨(iP rfl), (lvI (by rfl)), trivial⟩
  ·exact ⟨(obE rfl rfl rfl), trivial⟩
  ·kernel_rfl) ?_
 ·exact ⟨Nat.zero_le _, fun j hj => by omega⟩
 intro i hi
 obtain ⟨hi, hno⟩ := hi
 refine D_seq fun K4 hK4 => ?_
 refine D_seq fun K5 hK5 => ?_
 refine D_region ?_
 refine DL_c (mvI rfl) ?_
 refine DL_c (op_fldP _ inferInstance rfl rfl rfl) ?_
 refine DL_c (op_ldB _ inferInstance rfl rfl (rfl : _ = some (AV.sl _ _))) ?_
 refine DL_c (op_lenS _ inferInstance rfl) ?_
 refine DL_c (op_lss _ _ rfl rfl rfl) ?_
 refine DL_nil (hK5 _ ?_)
 clear hK5; try clear K5
 refine D_splitC rfl (fun hc9 => ?_) (fun hc9 => ?_)
 ·skip
  obtain ⟨b, hb⟩ : ∃ b, b = ord.getD i 0 := ⟨_, rfl⟩
  have hbm : b ∈ ord := hb ▸ getD_mem (by omega)
  have hbn := ho.2 b hbm
  refine D_skip (hK4 _ ?_)
  clear hK4; try clear K4
  refine D_seq fun K6 hK6 => ?_
  refine D_block ?_
  refine D_seq fun K7 hK7 => ?_
  refine D_region ?_
  refine DL_c (asI rfl) ?_
  refine DL_nil (hK7 _ ?_)
  clear hK7; try clear K7
  refine D_block ?_
  refine D_loopL (α := Nat) (fun k => k ≤ ord.length ∧ ∀ q, q < k → ¬ (st.getD b 0 = 1 ∧ st.getD (ord.getD q 0) 0 = 0 ∧ R b (ord.getD q 0) = true)) 55 [(1, _), (3, _)] [((1, 0), _)] (fun k => [(4, .v (.int .i64 (k : Int)))]) (fun k => []) [] [] (fun k => ord.length - k) 0 ?_ (by
   refine Le.mkJ [] [] rfl ?_ ?_ trivial trivial ?_
   ·exact ⟨(iP rfl), (iV rfl), (lvI (by rfl)), trivial⟩
   ·exact ⟨(obE rfl rfl rfl), trivial⟩
   ·kernel_rfl) ?_
  ·exact ⟨Nat.zero_le _, fun q hq => by omega⟩
  intro k hk
  obtain ⟨hk, hnk⟩ := hk
  refine D_seq fun K8 hK8 => ?_
  refine D_seq fun K9 hK9 => ?_
  refine D_region ?_
  refine DL_c (mvI rfl) ?_
  refine DL_c (op_fldP _ inferInstance rfl rfl rfl) ?_
  refine DL_c (op_ldB _ inferInstance rfl rfl (rfl : _ = some (AV.sl _ _))) ?_
  refine DL_c (op_lenS _ inferInstance rfl) ?_
  refine DL_c (op_lss _ _ rfl rfl rfl) ?_
  refine DL_nil (hK9 _ ?_)
  clear hK9; try clear K9
  refine D_splitC rfl (fun hc16 => ?_) (fun hc16 => ?_)
  ·skip
   obtain ⟨g, hg⟩ : ∃ g, g = ord.getD k 0 := ⟨_, rfl⟩
   have hgm : g ∈ ord := hg ▸ getD_mem (by omega)
   have hgn := ho.2 g hgm
   have hnx : ¬ (st.getD b 0 = 1 ∧ st.getD g 0 = 0 ∧ R b g = true) → ∀ q, q < k + 1 → ¬ (st.getD b 0 = 1 ∧ st.getD (ord.getD q 0) 0 = 0 ∧ R b (ord.getD q 0) = true) := fun hh q hq => by
    by_cases hqk : q = k
    ·subst hqk; rw [← hg]; exact hh
    ·exact hnk q (by omega)
   refine D_skip (hK8 _ ?_)
   clear hK8; try clear K8
   refine D_seq fun K10 hK10 => ?_
   refine D_block ?_
   refine D_seq fun K11 hK11 => ?_
   refine D_le (σ' := mkStI 55 [(1, _), (3, _), (4, _)] [((1, 0), _)] [] []) (by
    refine Le.mkJ [] [] rfl ?_ ?_ trivial trivial ?_
    ·exact ⟨(iP rfl), (iV rfl), (iV rfl), trivial⟩
    ·exact ⟨(obE rfl rfl rfl), trivial⟩
    ·kernel_rfl) ?_
   refine D_anyL 36 [19, 20, 21, 22, 23, 24, 25, 26, 27, 28, 29, 30, 31, 32, 33, 34, 35, 36, 37, 38, 39, 40, 41, 42, 43, 44, 45, 46, 47, 48, 49, 50, 51, 52, 53, 54] [] (by kernel_rfl) (by kernel_rfl) rfl (nodupO_iff rfl) (rfl : _ = [_, _, _, _, _, _, _, _, _, _, _, _, _, _, _, _, _, _, _, _, _, _, _, _, _, _, _, _, _, _, _, _, _, _, _, _]) (rfl : _ = []) ?_
   refine any_c (_, []) (fun τ => op_fldP _ inferInstance rfl rfl rfl) ?_
   refine any_n (rfl : _ = [_]) ?_
   refine any_c (_, []) (fun τ => op_ldB _ inferInstance rfl rfl (rfl : _ = some (AV.sl _ _))) ?_
   refine any_n (rfl : _ = [_, _]) ?_
   refine any_c (_, []) (fun τ => op_fldP _ inferInstance rfl rfl rfl) ?_
   refine any_n (rfl : _ = [_, _, _]) ?_
   refine any_c (_, []) (fun τ => op_ldB _ inferInstance rfl rfl (rfl : _ = some (AV.sl _ _))) ?_
   refine any_n (rfl : _ = [_, _, _, _]) ?_
   refine any_c (_, []) (fun τ => op_mv _ (rfl : _ = AV.v (.int _ _))) ?_
   refine any_n (rfl : _ = [_, _, _, _, _]) ?_
   refine any_c (_, []) (fun τ => op_ixS _ _ inferInstance rfl rfl _ rfl (by omega) (by (simp only [isl_len, bsl_len, psl_len, mrows_len, nsl_len, ws_len, List.length_map, ul_len, psl_len, isl_len, nrows_len, mmap_len, smap_len, dcl_len, blR_len, prL_len, stK_len, inh1_len, st0_len, status32_len]; omega)) (by exact Nat.mul_one _)) ?_
   refine any_n (rfl : _ = [_, _, _, _, _, _]) ?_
   refine any_c (_, []) (fun τ => op_ldF _ inferInstance rfl (by exact (nsl_get _ _ (by omega)).trans (by rw [← hb])) rfl) ?_
   refine any_n (rfl : _ = [_, _, _, _, _, _, _]) ?_
   refine any_c (_, []) (fun τ => op_ixS _ _ inferInstance rfl rfl b rfl (by omega) (by rw [isl_len]; omega) (Nat.mul_one _)) ?_
   refine any_n (rfl : _ = [_, _, _, _, _, _, _, _]) ?_
   refine any_c (_, []) (fun τ => op_ldF _ inferInstance rfl (by exact isl_get _ _ (by omega)) rfl) ?_
   refine any_n (rfl : _ = [_, _, _, _, _, _, _, _, _]) ?_
   refine any_c (_, []) (fun τ => op_eql _ _ rfl rfl rfl) ?_
   refine any_n (rfl : _ = [_, _, _, _, _, _, _, _, _, _]) ?_
   refine any_c (_, []) (fun τ => op_mv _ (rfl : _ = AV.v (.bool _))) ?_
   refine any_caseC (fun hg29 => ?_) (fun hg29 => ?_)
   ·skip
    refine any_n (rfl : _ = [_, _, _, _, _, _, _, _, _, _, _]) ?_
    refine any_cy (_, []) rfl (fun τ => rfl) (fun τ => op_fldP _ inferInstance rfl rfl rfl) ?_
    refine any_n (rfl : _ = [_, _, _, _, _, _, _, _, _, _, _, _]) ?_
    refine any_cy (_, []) rfl (fun τ => rfl) (fun τ => op_ldB _ inferInstance rfl rfl (rfl : _ = some (AV.sl _ _))) ?_
    refine any_n (rfl : _ = [_, _, _, _, _, _, _, _, _, _, _, _, _]) ?_
    refine any_cy (_, []) rfl (fun τ => rfl) (fun τ => op_fldP _ inferInstance rfl rfl rfl) ?_
    refine any_n (rfl : _ = [_, _, _, _, _, _, _, _, _, _, _, _, _, _]) ?_
    refine any_cy (_, []) rfl (fun τ => rfl) (fun τ => op_ldB _ inferInstance rfl rfl (rfl : _ = some (AV.sl _ _))) ?_
    refine any_n (rfl : _ = [_, _, _, _, _, _, _, _, _, _, _, _, _, _, _]) ?_
    refine any_cy (_, []) rfl (fun τ => rfl) (fun τ => op_mv _ (rfl : _ = AV.v (.int _ _))) ?_
    refine any_n (rfl : _ = [_, _, _, _, _, _, _, _, _, _, _, _, _, _, _, _]) ?_
    refine any_cy (_, []) rfl (fun τ => rfl) (fun τ => op_ixS _ _ inferInstance rfl rfl _ rfl (by omega) (by (simp only [isl_len, bsl_len, psl_len, mrows_len, nsl_len, ws_len, List.length_map, ul_len, psl_len, isl_len, nrows_len, mmap_len, smap_len, dcl_len, blR_len, prL_len, stK_len, inh1_len, st0_len, status32_len]; omega)) (by exact Nat.mul_one _)) ?_
    refine any_n (rfl : _ = [_, _, _, _, _, _, _, _, _, _, _, _, _, _, _, _, _]) ?_
    refine any_cy (_, []) rfl (fun τ => rfl) (fun τ => op_ldF _ inferInstance rfl (by exact (nsl_get _ _ (by omega)).trans (by rw [← hg])) rfl) ?_
    refine any_n (rfl : _ = [_, _, _, _, _, _, _, _, _, _, _, _, _, _, _, _, _, _]) ?_
    refine any_cy (_, []) rfl (fun τ => rfl) (fun τ => op_ixS _ _ inferInstance rfl rfl g rfl (by omega) (by rw [isl_len]; omega) (Nat.mul_one _)) ?_
    refine any_n (rfl : _ = [_, _, _, _, _, _, _, _, _, _, _, _, _, _, _, _, _, _, _]) ?_
    refine any_cy (_, []) rfl (fun τ => rfl) (fun τ => op_ldF _ inferInstance rfl (by exact isl_get _ _ (by omega)) rfl) ?_
    refine any_n (rfl : _ = [_, _, _, _, _, _, _, _, _, _, _, _, _, _, _, _, _, _, _, _]) ?_
    refine any_cy (_, []) rfl (fun τ => rfl) (fun τ => op_eql _ _ rfl rfl rfl) ?_
    refine any_n (rfl : _ = [_, _, _, _, _, _, _, _, _, _, _, _, _, _, _, _, _, _, _, _, _]) ?_
    refine any_c (_, []) (fun τ => op_pick _ _ _ rfl (rfl : _ = AV.v (.bool _))) ?_
    refine any_n (rfl : _ = [_, _, _, _, _, _, _, _, _, _, _, _, _, _, _, _, _, _, _, _, _, _]) ?_
    refine any_c (_, []) (fun τ => op_mv _ (rfl : _ = AV.v (.bool _))) ?_
    refine any_caseC (fun hg41 => ?_) (fun hg41 => ?_)
    ·skip
     refine any_n (rfl : _ = [_, _, _, _, _, _, _, _, _, _, _, _, _, _, _, _, _, _, _, _, _, _, _]) ?_
     refine any_cy (_, []) rfl (fun τ => rfl) (fun τ => op_ldBA _ inferInstance rfl rfl rfl rfl) ?_
     refine any_n (rfl : _ = [_, _, _, _, _, _, _, _, _, _, _, _, _, _, _, _, _, _, _, _, _, _, _, _]) ?_
     refine any_cy (_, []) rfl (fun τ => rfl) (fun τ => op_fldP _ inferInstance rfl rfl rfl) ?_
     refine any_n (rfl : _ = [_, _, _, _, _, _, _, _, _, _, _, _, _, _, _, _, _, _, _, _, _, _, _, _, _]) ?_
     refine any_cy (_, []) rfl (fun τ => rfl) (fun τ => op_ldB _ inferInstance rfl rfl (rfl : _ = some (AV.sl _ _))) ?_
     refine any_n (rfl : _ = [_, _, _, _, _, _, _, _, _, _, _, _, _, _, _, _, _, _, _, _, _, _, _, _, _, _]) ?_
     refine any_cy (_, []) rfl (fun τ => rfl) (fun τ => op_mv _ (rfl : _ = AV.v (.int _ _))) ?_
     refine any_n (rfl : _ = [_, _, _, _, _, _, _, _, _, _, _, _, _, _, _, _, _, _, _, _, _, _, _, _, _, _, _]) ?_
     refine any_cy (_, []) rfl (fun τ => rfl) (fun τ => op_ixS _ _ inferInstance rfl rfl _ rfl (by omega) (by (simp only [isl_len, bsl_len, psl_len, mrows_len, nsl_len, ws_len, List.length_map, ul_len, psl_len, isl_len, nrows_len, mmap_len, smap_len, dcl_len, blR_len, prL_len, stK_len, inh1_len, st0_len, status32_len]; omega)) (by exact Nat.mul_one _)) ?_
     refine any_n (rfl : _ = [_, _, _, _, _, _, _, _, _, _, _, _, _, _, _, _, _, _, _, _, _, _, _, _, _, _, _, _]) ?_
     refine any_cy (_, []) rfl (fun τ => rfl) (fun τ => op_ldF _ inferInstance rfl (by exact (nsl_get _ _ (by omega)).trans (by rw [← hb])) rfl) ?_
     refine any_n (rfl : _ = [_, _, _, _, _, _, _, _, _, _, _, _, _, _, _, _, _, _, _, _, _, _, _, _, _, _, _, _, _]) ?_
     refine any_cy (_, []) rfl (fun τ => rfl) (fun τ => op_fldP _ inferInstance rfl rfl rfl) ?_
     refine any_n (rfl : _ = [_, _, _, _, _, _, _, _, _, _, _, _, _, _, _, _, _, _, _, _, _, _, _, _, _, _, _, _, _, _]) ?_
     refine any_cy (_, []) rfl (fun τ => rfl) (fun τ => op_ldB _ inferInstance rfl rfl (rfl : _ = some (AV.sl _ _))) ?_
     refine any_n (rfl : _ = [_, _, _, _, _, _, _, _, _, _, _, _, _, _, _, _, _, _, _, _, _, _, _, _, _, _, _, _, _, _, _]) ?_
     refine any_cy (_, []) rfl (fun τ => rfl) (fun τ => op_mv _ (rfl : _ = AV.v (.int _ _))) ?_
     refine any_n (rfl : _ = [_, _, _, _, _, _, _, _, _, _, _, _, _, _, _, _, _, _, _, _, _, _, _, _, _, _, _, _, _, _, _, _]) ?_
     refine any_cy (_, []) rfl (fun τ => rfl) (fun τ => op_ixS _ _ inferInstance rfl rfl _ rfl (by omega) (by (simp only [isl_len, bsl_len, psl_len, mrows_len, nsl_len, ws_len, List.length_map, ul_len, psl_len, isl_len, nrows_len, mmap_len, smap_len, dcl_len, blR_len, prL_len, stK_len, inh1_len, st0_len, status32_len]; omega)) (by exact Nat.mul_one _)) ?_
     refine any_n (rfl : _ = [_, _, _, _, _, _, _, _, _, _, _, _, _, _, _, _, _, _, _, _, _, _, _, _, _, _, _, _, _, _, _, _, _]) ?_
     refine any_cy (_, []) rfl (fun τ => rfl) (fun τ => op_ldF _ inferInstance rfl (by exact (nsl_get _ _ (by omega)).trans (by rw [← hg])) rfl) ?_
     refine any_n (rfl : _ = [_, _, _, _, _, _, _, _, _, _, _, _, _, _, _, _, _, _, _, _, _, _, _, _, _, _, _, _, _, _, _, _, _, _]) ?_
     refine any_cy (_, []) rfl (fun τ => rfl) (fun τ => (op_callH inferInstance (by repeat' (first | exact argsLv_nil | refine argsLv_cons ?_ ?_ | exact Lv.v | exact Lv.sl | refine Lv.agg rfl ?_ | exact lv_nil | refine lv_cons ?_ ?_)) (ha b g) rfl rfl)) ?_
     refine any_n (rfl : _ = [_, _, _, _, _, _, _, _, _, _, _, _, _, _, _, _, _, _, _, _, _, _, _, _, _, _, _, _, _, _, _, _, _, _, _]) ?_
     refine any_c (_, []) (fun τ => op_pick _ _ _ rfl (rfl : _ = AV.v (.bool _))) ?_
     refine any_n (rfl : _ = [_, _, _, _, _, _, _, _, _, _, _, _, _, _, _, _, _, _, _, _, _, _, _, _, _, _, _, _, _, _, _, _, _, _, _, _]) ?_
     refine any_end ⟨rfl, ?_⟩
     refine DL_nil (hK11 _ ?_)
     clear hK11; try clear K11
     refine D_splitC rfl (fun hc54 => ?_) (fun hc54 => ?_)
     ·skip
      refine D_seq fun K12 hK12 => ?_
      refine D_le (σ' := mkStI 55 [] [] [] []) (by
       refine Le.mkJ [] [] rfl ?_ ?_ trivial trivial ?_
       ·exact trivial
       ·exact trivial
       ·kernel_rfl) ?_
      refine D_region ?_
      refine DL_c (asB rfl) ?_
      refine DL_nil (hK12 _ ?_)
      clear hK12; try clear K12
      refine D_ret ?_
      refine ret1 (.inr rfl) rfl (.tmp (rfl : _ = AV.v (.bool _))) (Le.out [] [] (lvB ?_) rfl rfl rfl trivial trivial)
      exact hci.2 ⟨b, hbm, g, hgm, by rw [hns b hbm]; exact hg29, by rw [hns g hgm]; exact hg41, hc54⟩
     ·skip
      refine D_skip (hK10 _ ?_)
      clear hK10; try clear K10
      refine D_le (σ' := mkStI 55 [(1, _), (3, _), (4, _)] [((1, 0), _)] [] []) (by
       refine Le.mkJ [] [] rfl ?_ ?_ trivial trivial ?_
       ·exact ⟨(iP rfl), (iV rfl), (iV rfl), trivial⟩
       ·exact ⟨(obE rfl rfl rfl), trivial⟩
       ·kernel_rfl) ?_
      refine D_region ?_
      refine DL_c (mvI rfl) ?_
      refine DL_c (op_add _ _ rfl rfl (i64w (by omega))) ?_
      refine DL_c (asI rfl) ?_
      refine DL_nil ?_
      refine ⟨k + 1, ?_, ?_, ?_⟩
      ·exact ⟨by omega, hnx fun hh => by rw [hc54] at hh; cases hh.2.2⟩
      ·skip
       refine Le.mkJ [] [] rfl ?_ ?_ trivial trivial ?_
       ·exact ⟨(iP rfl), (iV rfl), (lvI (by rfl)), trivial⟩
       ·exact ⟨(obE rfl rfl rfl), trivial⟩
       ·kernel_rfl
      ·omega
    ·skip
     refine any_n (rfl : _ = [_, _, _, _, _, _, _, _, _, _, _, _, _, _, _, _, _, _, _, _, _, _, _]) ?_
     refine any_cn rfl (fun τ => rfl) (by decide) ?_
     refine any_n (rfl : _ = [_, _, _, _, _, _, _, _, _, _, _, _, _, _, _, _, _, _, _, _, _, _, _, _]) ?_
     refine any_cn rfl (fun τ => rfl) (by decide) ?_
     refine any_n (rfl : _ = [_, _, _, _, _, _, _, _, _, _, _, _, _, _, _, _, _, _, _, _, _, _, _, _, _]) ?_
     refine any_cn rfl (fun τ => rfl) (by decide) ?_
     refine any_n (rfl : _ = [_, _, _, _, _, _, _, _, _, _, _, _, _, _, _, _, _, _, _, _, _, _, _, _, _, _]) ?_
     refine any_cn rfl (fun τ => rfl) (by decide) ?_
     refine any_n (rfl : _ = [_, _, _, _, _, _, _, _, _, _, _, _, _, _, _, _, _, _, _, _, _, _, _, _, _, _, _]) ?_
     refine any_cn rfl (fun τ => rfl) (by decide) ?_
     refine any_n (rfl : _ = [_, _, _, _, _, _, _, _, _, _, _, _, _, _, _, _, _, _, _, _, _, _, _, _, _, _, _, _]) ?_
     refine any_cn rfl (fun τ => rfl) (by decide) ?_
     refine any_n (rfl : _ = [_, _, _, _, _, _, _, _, _, _, _, _, _, _, _, _, _, _, _, _, _, _, _, _, _, _, _, _, _]) ?_
     refine any_cn rfl (fun τ => rfl) (by decide) ?_
     refine any_n (rfl : _ = [_, _, _, _, _, _, _, _, _, _, _, _, _, _, _, _, _, _, _, _, _, _, _, _, _, _, _, _, _, _]) ?_
     refine any_cn rfl (fun τ => rfl) (by decide) ?_
     refine any_n (rfl : _ = [_, _, _, _, _, _, _, _, _, _, _, _, _, _, _, _, _, _, _, _, _, _, _, _, _, _, _, _, _, _, _]) ?_
     refine any_cn rfl (fun τ => rfl) (by decide) ?_
     refine any_n (rfl : _ = [_, _, _, _, _, _, _, _, _, _, _, _, _, _, _, _, _, _, _, _, _, _, _, _, _, _, _, _, _, _, _, _]) ?_
     refine any_cn rfl (fun τ => rfl) (by decide) ?_
     refine any_n (rfl : _ = [_, _, _, _, _, _, _, _, _, _, _, _, _, _, _, _, _, _, _, _, _, _, _, _, _, _, _, _, _, _, _, _, _]) ?_
     refine any_cn rfl (fun τ => rfl) (by decide) ?_
     refine any_n (rfl : _ = [_, _, _, _, _, _, _, _, _, _, _, _, _, _, _, _, _, _, _, _, _, _, _, _, _, _, _, _, _, _, _, _, _, _]) ?_
     refine any_cn rfl (fun τ => rfl) (by decide) ?_
     refine any_n (rfl : _ = [_, _, _, _, _, _, _, _, _, _, _, _, _, _, _, _, _, _, _, _, _, _, _, _, _, _, _, _, _, _, _, _, _, _, _]) ?_
     refine any_c (_, []) (fun τ => op_pick _ _ _ rfl (rfl : _ = AV.v (.bool _))) ?_
     refine any_n (rfl : _ = [_, _, _, _, _, _, _, _, _, _, _, _, _, _, _, _, _, _, _, _, _, _, _, _, _, _, _, _, _, _, _, _, _, _, _, _]) ?_
     refine any_end ⟨rfl, ?_⟩
     refine DL_nil (hK11 _ ?_)
     clear hK11; try clear K11
     refine D_cF rfl rfl ?_
     refine D_skip (hK10 _ ?_)
     clear hK10; try clear K10
     refine D_le (σ' := mkStI 55 [(1, _), (3, _), (4, _)] [((1, 0), _)] [] []) (by
      refine Le.mkJ [] [] rfl ?_ ?_ trivial trivial ?_
      ·exact ⟨(iP rfl), (iV rfl), (iV rfl), trivial⟩
      ·exact ⟨(obE rfl rfl rfl), trivial⟩
      ·kernel_rfl) ?_
     refine D_region ?_
     refine DL_c (mvI rfl) ?_
     refine DL_c (op_add _ _ rfl rfl (i64w (by omega))) ?_
     refine DL_c (asI rfl) ?_
     refine DL_nil ?_
     refine ⟨k + 1, ?_, ?_, ?_⟩
     ·exact ⟨by omega, hnx fun hh => hg41 hh.2.1⟩
     ·skip
      refine Le.mkJ [] [] rfl ?_ ?_ trivial trivial ?_
      ·exact ⟨(iP rfl), (iV rfl), (lvI (by rfl)), trivial⟩
      ·exact ⟨(obE rfl rfl rfl), trivial⟩
      ·kernel_rfl
     ·omega
   ·skip
    refine any_n (rfl : _ = [_, _, _, _, _, _, _, _, _, _, _]) ?_
    refine any_cn rfl (fun τ => rfl) (by decide) ?_
    refine any_n (rfl : _ = [_, _, _, _, _, _, _, _, _, _, _, _]) ?_
    refine any_cn rfl (fun τ => rfl) (by decide) ?_
    refine any_n (rfl : _ = [_, _, _, _, _, _, _, _, _, _, _, _, _]) ?_
    refine any_cn rfl (fun τ => rfl) (by decide) ?_
    refine any_n (rfl : _ = [_, _, _, _, _, _, _, _, _, _, _, _, _, _]) ?_
    refine any_cn rfl (fun τ => rfl) (by decide) ?_
    refine any_n (rfl : _ = [_, _, _, _, _, _, _, _, _, _, _, _, _, _, _]) ?_
    refine any_cn rfl (fun τ => rfl) (by decide) ?_
    refine any_n (rfl : _ = [_, _, _, _, _, _, _, _, _, _, _, _, _, _, _, _]) ?_
    refine any_cn rfl (fun τ => rfl) (by decide) ?_
    refine any_n (rfl : _ = [_, _, _, _, _, _, _, _, _, _, _, _, _, _, _, _, _]) ?_
    refine any_cn rfl (fun τ => rfl) (by decide) ?_
    refine any_n (rfl : _ = [_, _, _, _, _, _, _, _, _, _, _, _, _, _, _, _, _, _]) ?_
    refine any_cn rfl (fun τ => rfl) (by decide) ?_
    refine any_n (rfl : _ = [_, _, _, _, _, _, _, _, _, _, _, _, _, _, _, _, _, _, _]) ?_
    refine any_cn rfl (fun τ => rfl) (by decide) ?_
    refine any_n (rfl : _ = [_, _, _, _, _, _, _, _, _, _, _, _, _, _, _, _, _, _, _, _]) ?_
    refine any_cn rfl (fun τ => rfl) (by decide) ?_
    refine any_n (rfl : _ = [_, _, _, _, _, _, _, _, _, _, _, _, _, _, _, _, _, _, _, _, _]) ?_
    refine any_c (_, []) (fun τ => op_pick _ _ _ rfl (rfl : _ = AV.v (.bool _))) ?_
    refine any_n (rfl : _ = [_, _, _, _, _, _, _, _, _, _, _, _, _, _, _, _, _, _, _, _, _, _]) ?_
    refine any_c (_, []) (fun τ => op_mv _ (rfl : _ = AV.v (.bool _))) ?_
    refine any_n (rfl : _ = [_, _, _, _, _, _, _, _, _, _, _, _, _, _, _, _, _, _, _, _, _, _, _]) ?_
    refine any_cn rfl (fun τ => rfl) (by decide) ?_
    refine any_n (rfl : _ = [_, _, _, _, _, _, _, _, _, _, _, _, _, _, _, _, _, _, _, _, _, _, _, _]) ?_
    refine any_cn rfl (fun τ => rfl) (by decide) ?_
    refine any_n (rfl : _ = [_, _, _, _, _, _, _, _, _, _, _, _, _, _, _, _, _, _, _, _, _, _, _, _, _]) ?_
    refine any_cn rfl (fun τ => rfl) (by decide) ?_
    refine any_n (rfl : _ = [_, _, _, _, _, _, _, _, _, _, _, _, _, _, _, _, _, _, _, _, _, _, _, _, _, _]) ?_
    refine any_cn rfl (fun τ => rfl) (by decide) ?_
    refine any_n (rfl : _ = [_, _, _, _, _, _, _, _, _, _, _, _, _, _, _, _, _, _, _, _, _, _, _, _, _, _, _]) ?_
    refine any_cn rfl (fun τ => rfl) (by decide) ?_
    refine any_n (rfl : _ = [_, _, _, _, _, _, _, _, _, _, _, _, _, _, _, _, _, _, _, _, _, _, _, _, _, _, _, _]) ?_
    refine any_cn rfl (fun τ => rfl) (by decide) ?_
    refine any_n (rfl : _ = [_, _, _, _, _, _, _, _, _, _, _, _, _, _, _, _, _, _, _, _, _, _, _, _, _, _, _, _, _]) ?_
    refine any_cn rfl (fun τ => rfl) (by decide) ?_
    refine any_n (rfl : _ = [_, _, _, _, _, _, _, _, _, _, _, _, _, _, _, _, _, _, _, _, _, _, _, _, _, _, _, _, _, _]) ?_
    refine any_cn rfl (fun τ => rfl) (by decide) ?_
    refine any_n (rfl : _ = [_, _, _, _, _, _, _, _, _, _, _, _, _, _, _, _, _, _, _, _, _, _, _, _, _, _, _, _, _, _, _]) ?_
    refine any_cn rfl (fun τ => rfl) (by decide) ?_
    refine any_n (rfl : _ = [_, _, _, _, _, _, _, _, _, _, _, _, _, _, _, _, _, _, _, _, _, _, _, _, _, _, _, _, _, _, _, _]) ?_
    refine any_cn rfl (fun τ => rfl) (by decide) ?_
    refine any_n (rfl : _ = [_, _, _, _, _, _, _, _, _, _, _, _, _, _, _, _, _, _, _, _, _, _, _, _, _, _, _, _, _, _, _, _, _]) ?_
    refine any_cn rfl (fun τ => rfl) (by decide) ?_
    refine any_n (rfl : _ = [_, _, _, _, _, _, _, _, _, _, _, _, _, _, _, _, _, _, _, _, _, _, _, _, _, _, _, _, _, _, _, _, _, _]) ?_
    refine any_cn rfl (fun τ => rfl) (by decide) ?_
    refine any_n (rfl : _ = [_, _, _, _, _, _, _, _, _, _, _, _, _, _, _, _, _, _, _, _, _, _, _, _, _, _, _, _, _, _, _, _, _, _, _]) ?_
    refine any_c (_, []) (fun τ => op_pick _ _ _ rfl (rfl : _ = AV.v (.bool _))) ?_
    refine any_n (rfl : _ = [_, _, _, _, _, _, _, _, _, _, _, _, _, _, _, _, _, _, _, _, _, _, _, _, _, _, _, _, _, _, _, _, _, _, _, _]) ?_
    refine any_end ⟨rfl, ?_⟩
    refine DL_nil (hK11 _ ?_)
    clear hK11; try clear K11
    refine D_cF rfl rfl ?_
    refine D_skip (hK10 _ ?_)
    clear hK10; try clear K10
    refine D_le (σ' := mkStI 55 [(1, _), (3, _), (4, _)] [((1, 0), _)] [] []) (by
     refine Le.mkJ [] [] rfl ?_ ?_ trivial trivial ?_
     ·exact ⟨(iP rfl), (iV rfl), (iV rfl), trivial⟩
     ·exact ⟨(obE rfl rfl rfl), trivial⟩
     ·kernel_rfl) ?_
    refine D_region ?_
    refine DL_c (mvI rfl) ?_
    refine DL_c (op_add _ _ rfl rfl (i64w (by omega))) ?_
    refine DL_c (asI rfl) ?_
    refine DL_nil ?_
    refine ⟨k + 1, ?_, ?_, ?_⟩
    ·exact ⟨by omega, hnx fun hh => hg29 hh.1⟩
    ·skip
     refine Le.mkJ [] [] rfl ?_ ?_ trivial trivial ?_
     ·exact ⟨(iP rfl), (iV rfl), (lvI (by rfl)), trivial⟩
     ·exact ⟨(obE rfl rfl rfl), trivial⟩
     ·kernel_rfl
    ·omega
  ·skip
   refine D_exit ?_
   refine id (hK6 _ ?_)
   clear hK6; try clear K6
   refine D_region ?_
   refine DL_c (mvI rfl) ?_
   refine DL_c (op_add _ _ rfl rfl (i64w (by omega))) ?_
   refine DL_c (asI rfl) ?_
   refine DL_nil ?_
   refine ⟨i + 1, ?_, ?_, ?_⟩
   ·refine ⟨by omega, fun j hj q hq => ?_⟩
    by_cases hji : j = i
    ·subst hji; rw [← hb]; exact hnk q (by omega)
    ·exact hno j (by omega) q hq
   ·skip
    refine Le.mkJ [] [] rfl ?_ ?_ trivial trivial ?_
    ·exact ⟨(iP rfl), (lvI (by rfl)), trivial⟩
    ·exact ⟨(obE rfl rfl rfl), trivial⟩
    ·kernel_rfl
   ·omega
 ·skip
  refine D_exit ?_
  refine id (hK2 _ ?_)
  clear hK2; try clear K2
  refine D_seq fun K13 hK13 => ?_
  refine D_region ?_
  refine DL_c (asB rfl) ?_
  refine DL_nil (hK13 _ ?_)
  clear hK13; try clear K13
  refine D_ret ?_
  refine ret1 (.inr rfl) rfl (.tmp (rfl : _ = AV.v (.bool _))) (Le.out [] [] (lvB ?_) rfl rfl rfl trivial trivial)
  rw [Bool.eq_false_iff]
  intro hc
  obtain ⟨b, hb, g, hg, h1, h0, hr⟩ := hci.1 hc
  rw [hns b hb] at h1
  rw [hns g hg] at h0
  obtain ⟨j, hj, rfl⟩ := List.getElem_of_mem hb
  obtain ⟨q, hq, rfl⟩ := List.getElem_of_mem hg
  have := hno j (by omega) q hq
  rw [getD_at ord j 0 hj, getD_at ord q 0 hq] at this
  exact this ⟨h1, h0, hr⟩
theorem ropen1_spec (v : Nat) (hv : v < n) : Spec Try.prog 135 (inSt [rS n Ps h st ord, .v (.int .i64 (v : Int))] []) (outSt (.v (.bool (Rn n Ps v h && !stl (Rn n Ps) n ord st h v))) []) := by
 have hn := hG.n64
 have hol := ho.len
 have ha := fun a v => ranc33_spec hG h st ord a v
 have hsi := stl_iff (R := Rn n Ps) ho (st := st) (h := h) (v := v)
 have hns : ∀ v ∈ ord, nst st v = st.getD v 0 := fun v hv => nst_eq h012 hst (ho.2 v hv)
 have hH := hasNN_spec ord.length ord v rfl (by omega)
 have hlast : ∀ j, j < ord.length → nst st (ord.getD j 0) = st.getD (ord.getD j 0) 0 ∧ ord.getD j 0 ∈ ord := fun j hj => ⟨hns _ (getD_mem hj), getD_mem hj⟩
 generalize Rn n Ps = R at *
 refine Spec.ofN Try.func135 rfl Try.ntmps135 rfl ?_
 refine D_seq fun K1 hK1 => ?_
 refine D_region ?_
 refine DL_c (op_box (2, 0) _ rfl rfl) ?_
 refine DL_c (asB rfl) ?_
 refine DL_nil (hK1 _ ?_)
 clear hK1; try clear K1
 refine D_seq fun K2 hK2 => ?_
 refine D_seq fun K3 hK3 => ?_
 refine D_region ?_
 refine DL_c (op_ldBA _ inferInstance rfl rfl rfl rfl) ?_
 refine DL_c (mvI rfl) ?_
 refine DL_c (op_fldP _ inferInstance rfl rfl rfl) ?_
 refine DL_c (op_ldB _ inferInstance rfl rfl (rfl : _ = some (AV.v (.int _ _)))) ?_
 refine DL_c (op_callH inferInstance (by repeat' (first | exact argsLv_nil | refine argsLv_cons ?_ ?_ | exact Lv.v | exact Lv.sl | refine Lv.agg rfl ?_ | exact lv_nil | refine lv_cons ?_ ?_)) (ha v h) rfl rfl) ?_
 refine DL_c (op_not _ rfl rfl) ?_
 refine DL_c (mvB rfl) ?_
 refine DL_caseC (fun hg13 => ?_) (fun hg13 => ?_)
 ·skip
  refine DL_cn rfl rfl (by decide) ?_
  refine DL_cn rfl rfl (by decide) ?_
  refine DL_cn rfl rfl (by decide) ?_
  refine DL_cn rfl rfl (by decide) ?_
  refine DL_c (op_pick _ _ _ rfl (rfl : _ = AV.v (.bool _))) ?_
  refine DL_nil (hK3 _ ?_)
  clear hK3; try clear K3
  refine D_cT rfl rfl ?_
  refine D_seq fun K4 hK4 => ?_
  refine D_region ?_
  refine DL_c (asB rfl) ?_
  refine DL_nil (hK4 _ ?_)
  clear hK4; try clear K4
  refine D_ret ?_
  refine ret1 (.inr rfl) rfl (.tmp (rfl : _ = AV.v (.bool _))) (Le.out [] [] (lvB ?_) rfl rfl rfl trivial trivial)
  have : R v h = false := by simpa using hg13
  rw [this]; rfl
 ·skip
  refine DL_cy rfl rfl (op_fldP _ inferInstance rfl rfl rfl) ?_
  refine DL_cy rfl rfl (op_ldB _ inferInstance rfl rfl (rfl : _ = some (AV.sl _ _))) ?_
  refine DL_cy rfl rfl (mvI rfl) ?_
  refine DL_cy rfl rfl (op_callH inferInstance (by repeat' (first | exact argsLv_nil | refine argsLv_cons ?_ ?_ | exact Lv.v | exact Lv.sl)) (hH) rfl rfl) ?_
  refine DL_c (op_pick _ _ _ rfl (rfl : _ = AV.v (.bool _))) ?_
  refine DL_nil (hK3 _ ?_)
  clear hK3; try clear K3
  refine D_splitC rfl (fun hc18 => ?_) (fun hc18 => ?_)
  ·skip
   refine D_seq fun K5 hK5 => ?_
   refine D_region ?_
   refine DL_c (asB rfl) ?_
   refine DL_nil (hK5 _ ?_)
   clear hK5; try clear K5
   refine D_ret ?_
   refine ret1 (.inr rfl) rfl (.tmp (rfl : _ = AV.v (.bool _))) (Le.out [] [] (lvB ?_) rfl rfl rfl trivial trivial)
   rw [hsi.2 (.inl hc18)]; simp
  ·skip
   have hvo : v ∉ ord := hc18
   have hRv : R v h = true := by simpa using hg13
   refine D_skip (hK2 _ ?_)
   clear hK2; try clear K2
   refine D_seq fun K6 hK6 => ?_
   refine D_seq fun K7 hK7 => ?_
   refine D_region ?_
   refine DL_c (asI rfl) ?_
   refine DL_nil (hK7 _ ?_)
   clear hK7; try clear K7
   refine D_block ?_
   refine D_loopL (α := Nat) (fun i => i ≤ ord.length ∧ ∀ j, j < i → ¬ ((st.getD (ord.getD j 0) 0 = 0 ∧ R v (ord.getD j 0) = true) ∨ (ord.getD j 0 ≠ h ∧ st.getD (ord.getD j 0) 0 = 1 ∧ R (ord.getD j 0) v = true))) 63 [(1, _), (2, _)] [((2, 0), _)] (fun i => [(5, .v (.int .i64 (i : Int)))]) (fun i => []) [] [] (fun i => ord.length - i) 0 ?_ (by
    refine Le.mkJ [] [] rfl ?_ ?_ trivial trivial ?_
    ·exact ⟨(iV rfl), (iP rfl), (lvI (by rfl)), trivial⟩
    ·exact ⟨(obE rfl rfl rfl), trivial⟩
    ·kernel_rfl) ?_
   ·exact ⟨Nat.zero_le _, fun j hj => by omega⟩
   intro i hi
   obtain ⟨hi, hno⟩ := hi
   refine D_seq fun K8 hK8 => ?_
   refine D_seq fun K9 hK9 => ?_
   refine D_region ?_
   refine DL_c (mvI rfl) ?_
   refine DL_c (op_fldP _ inferInstance rfl rfl rfl) ?_
   refine DL_c (op_ldB _ inferInstance rfl rfl (rfl : _ = some (AV.sl _ _))) ?_
   refine DL_c (op_lenS _ inferInstance rfl) ?_
   refine DL_c (op_lss _ _ rfl rfl rfl) ?_
   refine DL_nil (hK9 _ ?_)
   clear hK9; try clear K9
   refine D_splitC rfl (fun hc23 => ?_) (fun hc23 => ?_)
   ·skip
    obtain ⟨t, ht⟩ : ∃ t, t = ord.getD i 0 := ⟨_, rfl⟩
    have htm : t ∈ ord := ht ▸ getD_mem (by omega)
    have htn := ho.2 t htm
    have htns := hns t htm
    have hnx : ¬ ((st.getD t 0 = 0 ∧ R v t = true) ∨ (t ≠ h ∧ st.getD t 0 = 1 ∧ R t v = true)) → ∀ j, j < i + 1 → ¬ ((st.getD (ord.getD j 0) 0 = 0 ∧ R v (ord.getD j 0) = true) ∨ (ord.getD j 0 ≠ h ∧ st.getD (ord.getD j 0) 0 = 1 ∧ R (ord.getD j 0) v = true)) := fun hh j hj => by
     by_cases hji : j = i
     ·subst hji; rw [← ht]; exact hh
     ·exact hno j (by omega)
    refine D_skip (hK8 _ ?_)
    clear hK8; try clear K8
    refine D_seq fun K10 hK10 => ?_
    refine D_block ?_
    refine D_seq fun K11 hK11 => ?_
    refine D_region ?_
    refine DL_c (op_fldP _ inferInstance rfl rfl rfl) ?_
    refine DL_c (op_ldB _ inferInstance rfl rfl (rfl : _ = some (AV.sl _ _))) ?_
    refine DL_c (mvI rfl) ?_
    refine DL_c (op_ixS _ _ inferInstance rfl rfl _ rfl (by omega) (by (simp only [isl_len, bsl_len, psl_len, mrows_len, nsl_len, ws_len, List.length_map, ul_len, psl_len, isl_len, nrows_len, mmap_len, smap_len, dcl_len, blR_len, prL_len, stK_len, inh1_len, st0_len, status32_len]; omega)) (by exact Nat.mul_one _)) ?_
    refine DL_c (op_ldF _ inferInstance rfl (by exact (nsl_get _ _ (by omega)).trans (by rw [← ht])) rfl) ?_
    refine DL_c (asI rfl) ?_
    refine DL_nil (hK11 _ ?_)
    clear hK11; try clear K11
    refine D_seq fun K12 hK12 => ?_
    refine D_region ?_
    refine DL_c (op_fldP _ inferInstance rfl rfl rfl) ?_
    refine DL_c (op_ldB _ inferInstance rfl rfl (rfl : _ = some (AV.sl _ _))) ?_
    refine DL_c (mvI rfl) ?_
    refine DL_c (op_ixS _ _ inferInstance rfl rfl t rfl (by omega) (by rw [isl_len]; omega) (Nat.mul_one _)) ?_
    refine DL_c (op_ldF _ inferInstance rfl (by exact isl_get _ _ (by omega)) rfl) ?_
    refine DL_c (op_eql _ _ rfl rfl rfl) ?_
    refine DL_c (mvB rfl) ?_
    refine DL_caseC (fun hg37 => ?_) (fun hg37 => ?_)
    ·skip
     refine DL_cy rfl rfl (op_ldBA _ inferInstance rfl rfl rfl rfl) ?_
     refine DL_cy rfl rfl (mvI rfl) ?_
     refine DL_cy rfl rfl (mvI rfl) ?_
     refine DL_cy rfl rfl (op_callH inferInstance (by repeat' (first | exact argsLv_nil | refine argsLv_cons ?_ ?_ | exact Lv.v | exact Lv.sl | refine Lv.agg rfl ?_ | exact lv_nil | refine lv_cons ?_ ?_)) (ha v t) rfl rfl) ?_
     refine DL_c (op_pick _ _ _ rfl (rfl : _ = AV.v (.bool _))) ?_
     refine DL_c (mvB rfl) ?_
     refine DL_caseC (fun hg43 => ?_) (fun hg43 => ?_)
     ·skip
      refine DL_cn rfl rfl (by decide) ?_
      refine DL_cn rfl rfl (by decide) ?_
      refine DL_cn rfl rfl (by decide) ?_
      refine DL_cn rfl rfl (by decide) ?_
      refine DL_cn rfl rfl (by decide) ?_
      refine DL_cu rfl rfl ?_
      refine DL_cu rfl rfl ?_
      refine DL_cu rfl rfl ?_
      refine DL_cu rfl rfl ?_
      refine DL_cu rfl rfl ?_
      refine DL_cu rfl rfl ?_
      refine DL_cn rfl rfl (by decide) ?_
      refine DL_cn rfl rfl (by decide) ?_
      refine DL_cu rfl rfl ?_
      refine DL_cu rfl rfl ?_
      refine DL_cu rfl rfl ?_
      refine DL_cu rfl rfl ?_
      refine DL_cn rfl rfl (by decide) ?_
      refine DL_c (op_pick _ _ _ rfl (rfl : _ = AV.v (.bool _))) ?_
      refine DL_nil (hK12 _ ?_)
      clear hK12; try clear K12
      refine D_cT rfl rfl ?_
      refine D_seq fun K13 hK13 => ?_
      refine D_le (σ' := mkStI 63 [] [] [] []) (by
       refine Le.mkJ [] [] rfl ?_ ?_ trivial trivial ?_
       ·exact trivial
       ·exact trivial
       ·kernel_rfl) ?_
      refine D_region ?_
      refine DL_c (asB rfl) ?_
      refine DL_nil (hK13 _ ?_)
      clear hK13; try clear K13
      refine D_ret ?_
      exact ret1 (.inr rfl) rfl (.tmp (rfl : _ = AV.v (.bool _))) (Le.out [] [] (lvB (by rw [hsi.2 (.inr ⟨t, htm, .inl ⟨by rw [htns]; exact hg37, by assumption⟩⟩)]; simp)) rfl rfl rfl trivial trivial)
     ·skip
      refine DL_cy rfl rfl (mvI rfl) ?_
      refine DL_cy rfl rfl (op_fldP _ inferInstance rfl rfl rfl) ?_
      refine DL_cy rfl rfl (op_ldB _ inferInstance rfl rfl (rfl : _ = some (AV.v (.int _ _)))) ?_
      refine DL_cy rfl rfl (op_neq _ _ rfl rfl rfl) ?_
      refine DL_cy rfl rfl (mvB rfl) ?_
      refine DL_caseC (fun hg48 => ?_) (fun hg48 => ?_)
      ·skip
       refine DL_cy rfl rfl (op_fldP _ inferInstance rfl rfl rfl) ?_
       refine DL_cy rfl rfl (op_ldB _ inferInstance rfl rfl (rfl : _ = some (AV.sl _ _))) ?_
       refine DL_cy rfl rfl (mvI rfl) ?_
       refine DL_cy rfl rfl (op_ixS _ _ inferInstance rfl rfl t rfl (by omega) (by rw [isl_len]; omega) (Nat.mul_one _)) ?_
       refine DL_cy rfl rfl (op_ldF _ inferInstance rfl (by exact isl_get _ _ (by omega)) rfl) ?_
       refine DL_cy rfl rfl (op_eql _ _ rfl rfl rfl) ?_
       refine DL_cy rfl rfl (op_pick _ _ _ rfl (rfl : _ = AV.v (.bool _))) ?_
       refine DL_cy rfl rfl (mvB rfl) ?_
       refine DL_caseC (fun hg56 => ?_) (fun hg56 => ?_)
       ·skip
        refine DL_cy rfl rfl (op_ldBA _ inferInstance rfl rfl rfl rfl) ?_
        refine DL_cy rfl rfl (mvI rfl) ?_
        refine DL_cy rfl rfl (mvI rfl) ?_
        refine DL_cy rfl rfl (op_callH inferInstance (by repeat' (first | exact argsLv_nil | refine argsLv_cons ?_ ?_ | exact Lv.v | exact Lv.sl | refine Lv.agg rfl ?_ | exact lv_nil | refine lv_cons ?_ ?_)) (ha t v) rfl rfl) ?_
        refine DL_cy rfl rfl (op_pick _ _ _ rfl (rfl : _ = AV.v (.bool _))) ?_
        refine DL_c (op_pick _ _ _ rfl (rfl : _ = AV.v (.bool _))) ?_
        refine DL_nil (hK12 _ ?_)
        clear hK12; try clear K12
        refine D_splitC rfl (fun hc62 => ?_) (fun hc62 => ?_)
        ·skip
         refine D_seq fun K14 hK14 => ?_
         refine D_le (σ' := mkStI 63 [] [] [] []) (by
          refine Le.mkJ [] [] rfl ?_ ?_ trivial trivial ?_
          ·exact trivial
          ·exact trivial
          ·kernel_rfl) ?_
         refine D_region ?_
         refine DL_c (asB rfl) ?_
         refine DL_nil (hK14 _ ?_)
         clear hK14; try clear K14
         refine D_ret ?_
         exact ret1 (.inr rfl) rfl (.tmp (rfl : _ = AV.v (.bool _))) (Le.out [] [] (lvB (by rw [hsi.2 (.inr ⟨t, htm, .inr ⟨by omega, by rw [htns]; assumption, by assumption⟩⟩)]; simp)) rfl rfl rfl trivial trivial)
        ·skip
         refine D_skip (hK10 _ ?_)
         clear hK10; try clear K10
         refine D_le (σ' := mkStI 63 [(1, _), (2, _), (5, _)] [((2, 0), _)] [] []) (by
          refine Le.mkJ [] [] rfl ?_ ?_ trivial trivial ?_
          ·exact ⟨(iV rfl), (iP rfl), (iV rfl), trivial⟩
          ·exact ⟨(obE rfl rfl rfl), trivial⟩
          ·kernel_rfl) ?_
         refine D_region ?_
         refine DL_c (mvI rfl) ?_
         refine DL_c (op_add _ _ rfl rfl (i64w (by omega))) ?_
         refine DL_c (asI rfl) ?_
         refine DL_nil ?_
         refine ⟨i + 1, ?_, ?_, ?_⟩
         ·exact ⟨by omega, hnx (by
           rintro (⟨q1, q2⟩ | ⟨q1, q2, q3⟩) <;> omega)⟩
         ·skip
          refine Le.mkJ [] [] rfl ?_ ?_ trivial trivial ?_
          ·exact ⟨(iV rfl), (iP rfl), (lvI (by rfl)), trivial⟩
          ·exact ⟨(obE rfl rfl rfl), trivial⟩
          ·kernel_rfl
         ·omega
       ·skip
        refine DL_cn rfl rfl (by decide) ?_
        refine DL_cn rfl rfl (by decide) ?_
        refine DL_cn rfl rfl (by decide) ?_
        refine DL_cn rfl rfl (by decide) ?_
        refine DL_cy rfl rfl (op_pick _ _ _ rfl (rfl : _ = AV.v (.bool _))) ?_
        refine DL_c (op_pick _ _ _ rfl (rfl : _ = AV.v (.bool _))) ?_
        refine DL_nil (hK12 _ ?_)
        clear hK12; try clear K12
        refine D_cF rfl rfl ?_
        refine D_skip (hK10 _ ?_)
        clear hK10; try clear K10
        refine D_le (σ' := mkStI 63 [(1, _), (2, _), (5, _)] [((2, 0), _)] [] []) (by
         refine Le.mkJ [] [] rfl ?_ ?_ trivial trivial ?_
         ·exact ⟨(iV rfl), (iP rfl), (iV rfl), trivial⟩
         ·exact ⟨(obE rfl rfl rfl), trivial⟩
         ·kernel_rfl) ?_
        refine D_region ?_
        refine DL_c (mvI rfl) ?_
        refine DL_c (op_add _ _ rfl rfl (i64w (by omega))) ?_
        refine DL_c (asI rfl) ?_
        refine DL_nil ?_
        refine ⟨i + 1, ?_, ?_, ?_⟩
        ·exact ⟨by omega, hnx (by
          rintro (⟨q1, q2⟩ | ⟨q1, q2, q3⟩) <;> first | omega | (simp_all; done))⟩
        ·skip
         refine Le.mkJ [] [] rfl ?_ ?_ trivial trivial ?_
         ·exact ⟨(iV rfl), (iP rfl), (lvI (by rfl)), trivial⟩
         ·exact ⟨(obE rfl rfl rfl), trivial⟩
         ·kernel_rfl
        ·omega
      ·skip
       refine DL_cn rfl rfl (by decide) ?_
       refine DL_cn rfl rfl (by decide) ?_
       refine DL_cn rfl rfl (by decide) ?_
       refine DL_cn rfl rfl (by decide) ?_
       refine DL_cn rfl rfl (by decide) ?_
       refine DL_cn rfl rfl (by decide) ?_
       refine DL_cy rfl rfl (op_pick _ _ _ rfl (rfl : _ = AV.v (.bool _))) ?_
       refine DL_cy rfl rfl (mvB rfl) ?_
       refine DL_cn rfl rfl (by decide) ?_
       refine DL_cn rfl rfl (by decide) ?_
       refine DL_cn rfl rfl (by decide) ?_
       refine DL_cn rfl rfl (by decide) ?_
       refine DL_cy rfl rfl (op_pick _ _ _ rfl (rfl : _ = AV.v (.bool _))) ?_
       refine DL_c (op_pick _ _ _ rfl (rfl : _ = AV.v (.bool _))) ?_
       refine DL_nil (hK12 _ ?_)
       clear hK12; try clear K12
       refine D_cF rfl rfl ?_
       refine D_skip (hK10 _ ?_)
       clear hK10; try clear K10
       refine D_le (σ' := mkStI 63 [(1, _), (2, _), (5, _)] [((2, 0), _)] [] []) (by
        refine Le.mkJ [] [] rfl ?_ ?_ trivial trivial ?_
        ·exact ⟨(iV rfl), (iP rfl), (iV rfl), trivial⟩
        ·exact ⟨(obE rfl rfl rfl), trivial⟩
        ·kernel_rfl) ?_
       refine D_region ?_
       refine DL_c (mvI rfl) ?_
       refine DL_c (op_add _ _ rfl rfl (i64w (by omega))) ?_
       refine DL_c (asI rfl) ?_
       refine DL_nil ?_
       refine ⟨i + 1, ?_, ?_, ?_⟩
       ·exact ⟨by omega, hnx (by
         rintro (⟨q1, q2⟩ | ⟨q1, q2, q3⟩) <;> first | omega | (simp_all; done))⟩
       ·skip
        refine Le.mkJ [] [] rfl ?_ ?_ trivial trivial ?_
        ·exact ⟨(iV rfl), (iP rfl), (lvI (by rfl)), trivial⟩
        ·exact ⟨(obE rfl rfl rfl), trivial⟩
        ·kernel_rfl
       ·omega
    ·skip
     refine DL_cn rfl rfl (by decide) ?_
     refine DL_cn rfl rfl (by decide) ?_
     refine DL_cn rfl rfl (by decide) ?_
     refine DL_cn rfl rfl (by decide) ?_
     refine DL_c (op_pick _ _ _ rfl (rfl : _ = AV.v (.bool _))) ?_
     refine DL_c (mvB rfl) ?_
     refine DL_cy rfl rfl (mvI rfl) ?_
     refine DL_cy rfl rfl (op_fldP _ inferInstance rfl rfl rfl) ?_
     refine DL_cy rfl rfl (op_ldB _ inferInstance rfl rfl (rfl : _ = some (AV.v (.int _ _)))) ?_
     refine DL_cy rfl rfl (op_neq _ _ rfl rfl rfl) ?_
     refine DL_cy rfl rfl (mvB rfl) ?_
     refine DL_caseC (fun hg48 => ?_) (fun hg48 => ?_)
     ·skip
      refine DL_cy rfl rfl (op_fldP _ inferInstance rfl rfl rfl) ?_
      refine DL_cy rfl rfl (op_ldB _ inferInstance rfl rfl (rfl : _ = some (AV.sl _ _))) ?_
      refine DL_cy rfl rfl (mvI rfl) ?_
      refine DL_cy rfl rfl (op_ixS _ _ inferInstance rfl rfl t rfl (by omega) (by rw [isl_len]; omega) (Nat.mul_one _)) ?_
      refine DL_cy rfl rfl (op_ldF _ inferInstance rfl (by exact isl_get _ _ (by omega)) rfl) ?_
      refine DL_cy rfl rfl (op_eql _ _ rfl rfl rfl) ?_
      refine DL_cy rfl rfl (op_pick _ _ _ rfl (rfl : _ = AV.v (.bool _))) ?_
      refine DL_cy rfl rfl (mvB rfl) ?_
      refine DL_caseC (fun hg56 => ?_) (fun hg56 => ?_)
      ·skip
       refine DL_cy rfl rfl (op_ldBA _ inferInstance rfl rfl rfl rfl) ?_
       refine DL_cy rfl rfl (mvI rfl) ?_
       refine DL_cy rfl rfl (mvI rfl) ?_
       refine DL_cy rfl rfl (op_callH inferInstance (by repeat' (first | exact argsLv_nil | refine argsLv_cons ?_ ?_ | exact Lv.v | exact Lv.sl | refine Lv.agg rfl ?_ | exact lv_nil | refine lv_cons ?_ ?_)) (ha t v) rfl rfl) ?_
       refine DL_cy rfl rfl (op_pick _ _ _ rfl (rfl : _ = AV.v (.bool _))) ?_
       refine DL_c (op_pick _ _ _ rfl (rfl : _ = AV.v (.bool _))) ?_
       refine DL_nil (hK12 _ ?_)
       clear hK12; try clear K12
       refine D_splitC rfl (fun hc62 => ?_) (fun hc62 => ?_)
       ·skip
        refine D_seq fun K15 hK15 => ?_
        refine D_le (σ' := mkStI 63 [] [] [] []) (by
         refine Le.mkJ [] [] rfl ?_ ?_ trivial trivial ?_
         ·exact trivial
         ·exact trivial
         ·kernel_rfl) ?_
        refine D_region ?_
        refine DL_c (asB rfl) ?_
        refine DL_nil (hK15 _ ?_)
        clear hK15; try clear K15
        refine D_ret ?_
        exact ret1 (.inr rfl) rfl (.tmp (rfl : _ = AV.v (.bool _))) (Le.out [] [] (lvB (by rw [hsi.2 (.inr ⟨t, htm, .inr ⟨by omega, by rw [htns]; assumption, by assumption⟩⟩)]; simp)) rfl rfl rfl trivial trivial)
       ·skip
        refine D_skip (hK10 _ ?_)
        clear hK10; try clear K10
        refine D_le (σ' := mkStI 63 [(1, _), (2, _), (5, _)] [((2, 0), _)] [] []) (by
         refine Le.mkJ [] [] rfl ?_ ?_ trivial trivial ?_
         ·exact ⟨(iV rfl), (iP rfl), (iV rfl), trivial⟩
         ·exact ⟨(obE rfl rfl rfl), trivial⟩
         ·kernel_rfl) ?_
        refine D_region ?_
        refine DL_c (mvI rfl) ?_
        refine DL_c (op_add _ _ rfl rfl (i64w (by omega))) ?_
        refine DL_c (asI rfl) ?_
        refine DL_nil ?_
        refine ⟨i + 1, ?_, ?_, ?_⟩
        ·exact ⟨by omega, hnx (by
          rintro (⟨q1, q2⟩ | ⟨q1, q2, q3⟩) <;> first | omega | (simp_all; done))⟩
        ·skip
         refine Le.mkJ [] [] rfl ?_ ?_ trivial trivial ?_
         ·exact ⟨(iV rfl), (iP rfl), (lvI (by rfl)), trivial⟩
         ·exact ⟨(obE rfl rfl rfl), trivial⟩
         ·kernel_rfl
        ·omega
      ·skip
       refine DL_cn rfl rfl (by decide) ?_
       refine DL_cn rfl rfl (by decide) ?_
       refine DL_cn rfl rfl (by decide) ?_
       refine DL_cn rfl rfl (by decide) ?_
       refine DL_cy rfl rfl (op_pick _ _ _ rfl (rfl : _ = AV.v (.bool _))) ?_
       refine DL_c (op_pick _ _ _ rfl (rfl : _ = AV.v (.bool _))) ?_
       refine DL_nil (hK12 _ ?_)
       clear hK12; try clear K12
       refine D_cF rfl rfl ?_
       refine D_skip (hK10 _ ?_)
       clear hK10; try clear K10
       refine D_le (σ' := mkStI 63 [(1, _), (2, _), (5, _)] [((2, 0), _)] [] []) (by
        refine Le.mkJ [] [] rfl ?_ ?_ trivial trivial ?_
        ·exact ⟨(iV rfl), (iP rfl), (iV rfl), trivial⟩
        ·exact ⟨(obE rfl rfl rfl), trivial⟩
        ·kernel_rfl) ?_
       refine D_region ?_
       refine DL_c (mvI rfl) ?_
       refine DL_c (op_add _ _ rfl rfl (i64w (by omega))) ?_
       refine DL_c (asI rfl) ?_
       refine DL_nil ?_
       refine ⟨i + 1, ?_, ?_, ?_⟩
       ·exact ⟨by omega, hnx (by
         rintro (⟨q1, q2⟩ | ⟨q1, q2, q3⟩) <;> omega)⟩
       ·skip
        refine Le.mkJ [] [] rfl ?_ ?_ trivial trivial ?_
        ·exact ⟨(iV rfl), (iP rfl), (lvI (by rfl)), trivial⟩
        ·exact ⟨(obE rfl rfl rfl), trivial⟩
        ·kernel_rfl
       ·omega
     ·skip
      refine DL_cn rfl rfl (by decide) ?_
      refine DL_cn rfl rfl (by decide) ?_
      refine DL_cn rfl rfl (by decide) ?_
      refine DL_cn rfl rfl (by decide) ?_
      refine DL_cn rfl rfl (by decide) ?_
      refine DL_cn rfl rfl (by decide) ?_
      refine DL_cy rfl rfl (op_pick _ _ _ rfl (rfl : _ = AV.v (.bool _))) ?_
      refine DL_cy rfl rfl (mvB rfl) ?_
      refine DL_cn rfl rfl (by decide) ?_
      refine DL_cn rfl rfl (by decide) ?_
      refine DL_cn rfl rfl (by decide) ?_
      refine DL_cn rfl rfl (by decide) ?_
      refine DL_cy rfl rfl (op_pick _ _ _ rfl (rfl : _ = AV.v (.bool _))) ?_
      refine DL_c (op_pick _ _ _ rfl (rfl : _ = AV.v (.bool _))) ?_
      refine DL_nil (hK12 _ ?_)
      clear hK12; try clear K12
      refine D_cF rfl rfl ?_
      refine D_skip (hK10 _ ?_)
      clear hK10; try clear K10
      refine D_le (σ' := mkStI 63 [(1, _), (2, _), (5, _)] [((2, 0), _)] [] []) (by
       refine Le.mkJ [] [] rfl ?_ ?_ trivial trivial ?_
       ·exact ⟨(iV rfl), (iP rfl), (iV rfl), trivial⟩
       ·exact ⟨(obE rfl rfl rfl), trivial⟩
       ·kernel_rfl) ?_
      refine D_region ?_
      refine DL_c (mvI rfl) ?_
      refine DL_c (op_add _ _ rfl rfl (i64w (by omega))) ?_
      refine DL_c (asI rfl) ?_
      refine DL_nil ?_
      refine ⟨i + 1, ?_, ?_, ?_⟩
      ·exact ⟨by omega, hnx (by
        rintro (⟨q1, q2⟩ | ⟨q1, q2, q3⟩) <;> omega)⟩
      ·skip
       refine Le.mkJ [] [] rfl ?_ ?_ trivial trivial ?_
       ·exact ⟨(iV rfl), (iP rfl), (lvI (by rfl)), trivial⟩
       ·exact ⟨(obE rfl rfl rfl), trivial⟩
       ·kernel_rfl
      ·omega
   ·skip
    have hRet : (R v h && !stl R n ord st h v) = true := by
     rw [hRv, Bool.true_and, Bool.not_eq_true', Bool.eq_false_iff]
     intro hc
     rcases hsi.1 hc with hm | ⟨t, ht, hh⟩
     ·exact hvo hm
     ·obtain ⟨j, hj, rfl⟩ := List.getElem_of_mem ht
      have := hno j (by omega)
      rw [getD_at ord j 0 hj, ← hns _ ht] at this
      exact this hh
    refine D_exit ?_
    refine id (hK6 _ ?_)
    clear hK6; try clear K6
    refine D_seq fun K16 hK16 => ?_
    refine D_region ?_
    refine DL_c (asB rfl) ?_
    refine DL_nil (hK16 _ ?_)
    clear hK16; try clear K16
    refine D_ret ?_
    refine ret1 (.inr rfl) rfl (.tmp (rfl : _ = AV.v (.bool _))) (Le.out [] [] (lvB ?_) rfl rfl rfl trivial trivial)
    exact hRet
end
end Go.Proofs.Ytkbkmngbenohkaa

namespace Go.Proofs.Ytkbkmngbenohkaa
open Go.RowKit

def fpre (p : Nat → Bool) (v : Nat) : List Nat := (List.range v).filter p
theorem fpre_yes {p : Nat → Bool} {v : Nat} (h : p v = true) : fpre p (v + 1) = fpre p v ++ [v] := by simp [fpre, List.range_succ, List.filter_append, h]
theorem fpre_no {p : Nat → Bool} {v : Nat} (h : p v = false) : fpre p (v + 1) = fpre p v := by simp [fpre, List.range_succ, List.filter_append, h]
theorem fpre_len (p : Nat → Bool) (v : Nat) : (fpre p v).length ≤ v := by
 have := List.length_filter_le p (List.range v)
 simpa [fpre] using this
section
variable {n : Nat} {Ps : List (List Int)} (hG : GG n Ps) (h : Nat) (st : List Int) (hst : st.length = n) (h012 : ∀ v, v < n → st.getD v 0 = 0 ∨ st.getD v 0 = 1 ∨ st.getD v 0 = 2) (ord : List Nat) (ho : ok1 n ord)
include hG hst h012 ho
theorem ropen_spec : Spec Try.prog 114 (inSt [rS n Ps h st ord] []) (outSt (.sl (opn (Rn n Ps) n ord st h (scp (Rn n Ps) n h)).length (nsl (opn (Rn n Ps) n ord st h (scp (Rn n Ps) n h)))) []) := by
 have hn := hG.n64
 have hI := fun v hv => ropen1_spec hG h st hst h012 ord ho v hv
 have e : opn (Rn n Ps) n ord st h (scp (Rn n Ps) n h) = fpre (fun v => Rn n Ps v h && !stl (Rn n Ps) n ord st h v) n := by
  unfold opn scp fpre
  rw [List.filter_filter]
  refine List.filter_congr fun v _ => ?_
  rw [Bool.and_comm]
 rw [e]
 generalize hp : (fun v => Rn n Ps v h && !stl (Rn n Ps) n ord st h v) = p
 have hI : ∀ v, v < n → Spec Try.prog 135 (inSt [rS n Ps h st ord, .v (.int .i64 (v : Int))] []) (outSt (.v (.bool (p v))) []) := fun v hv => by rw [← hp]; exact hI v hv
 have hPl := hG.len
 refine Spec.ofN Try.func114 rfl Try.ntmps114 rfl ?_
 refine D_seq fun K1 hK1 => ?_
 refine D_region ?_
 refine DL_c (op_box (1, 0) _ rfl rfl) ?_
 refine DL_c (op_as _ (rfl : _ = AV.v (.slice _ _ _))) ?_
 refine DL_nil (hK1 _ ?_)
 clear hK1; try clear K1
 refine D_seq fun K2 hK2 => ?_
 refine D_region ?_
 refine DL_c (op_asN (3, 0) _ 3 1 rfl rfl) ?_
 refine DL_nil (hK2 _ ?_)
 clear hK2; try clear K2
 refine D_seq fun K3 hK3 => ?_
 refine D_seq fun K4 hK4 => ?_
 refine D_region ?_
 refine DL_c (asI rfl) ?_
 refine DL_nil (hK4 _ ?_)
 clear hK4; try clear K4
 refine D_block ?_
 refine D_loopL (α := Nat) (fun v => v ≤ n) 22 [(1, _)] [((1, 0), _)] (fun v => [(4, .v (.int .i64 (v : Int))), (3, .ref (3, 0) 0 (fpre p v).length)]) (fun v => [((3, 0), .row 3 1 (nsl (fpre p v)))]) [] [] (fun v => n - v) 0 ?_ (by
  refine Le.mkJ [] [] rfl ?_ ?_ trivial trivial ?_
  ·exact ⟨(iP rfl), (lvI (by rfl)), (lvRr rfl (by rfl)), trivial⟩
  ·exact ⟨(obE rfl rfl rfl), (obR rfl rfl rfl (by rfl)), trivial⟩
  ·kernel_rfl) ?_
 ·omega
 intro v hv
 have hfl := fpre_len p v
 refine D_seq fun K5 hK5 => ?_
 refine D_seq fun K6 hK6 => ?_
 refine D_region ?_
 refine DL_c (mvI rfl) ?_
 refine DL_c (op_fldP _ inferInstance rfl rfl rfl) ?_
 refine DL_c (op_ldB _ inferInstance rfl rfl (rfl : _ = some (AV.sl _ _))) ?_
 refine DL_c (op_lenS _ inferInstance rfl) ?_
 refine DL_c (op_lss _ _ rfl rfl rfl) ?_
 refine DL_nil (hK6 _ ?_)
 clear hK6; try clear K6
 refine D_splitC rfl (fun hc10 => ?_) (fun hc10 => ?_)
 ·skip
  have hIv := hI v (by omega)
  refine D_skip (hK5 _ ?_)
  clear hK5; try clear K5
  refine D_seq fun K7 hK7 => ?_
  refine D_block ?_
  refine D_seq fun K8 hK8 => ?_
  refine D_region ?_
  refine DL_c (op_ldBA _ inferInstance rfl rfl rfl rfl) ?_
  refine DL_c (mvI rfl) ?_
  refine DL_c (op_callH inferInstance (by repeat' (first | exact argsLv_nil | refine argsLv_cons ?_ ?_ | exact Lv.v | exact Lv.sl | refine Lv.agg rfl ?_ | exact lv_nil | refine lv_cons ?_ ?_)) (hIv) rfl rfl) ?_
  refine DL_c (asB rfl) ?_
  refine DL_nil (hK8 _ ?_)
  clear hK8; try clear K8
  refine D_seq fun K9 hK9 => ?_
  refine D_region ?_
  refine DL_c (mvB rfl) ?_
  refine DL_nil (hK9 _ ?_)
  clear hK9; try clear K9
  refine D_splitC rfl (fun hc16 => ?_) (fun hc16 => ?_)
  ·skip
   have hf := fpre_yes hc16
   refine D_region ?_
   refine DL_c (mvR rfl) ?_
   refine DL_c (mvI rfl) ?_
   refine DL_c (op_bsF _ _ inferInstance rfl (by rfl) (by simp <;> rfl) (by decide) rfl) ?_
   refine DL_c (op_ap (20, 0) _ _ inferInstance rfl rfl (by (simp only [isl_len, bsl_len, psl_len, mrows_len, nsl_len, ws_len, List.length_map, ul_len, psl_len, isl_len, nrows_len, mmap_len, smap_len, dcl_len, blR_len, prL_len, stK_len, inh1_len, st0_len, status32_len]; omega)) (by (refine .sl ?_; (simp [isl]; done))) (by omega) rfl (rfl) (rfl)) ?_
   refine DL_c (asR rfl) ?_
   refine DL_nil (hK7 _ ?_)
   clear hK7; try clear K7
   refine D_le (σ' := mkStI 22 [(1, _), (3, _), (4, _)] [((1, 0), _), ((20, 0), _)] [] []) (by
    refine Le.mkJ [] [] rfl ?_ ?_ trivial trivial ?_
    ·exact ⟨(iP rfl), (iR rfl), (iV rfl), trivial⟩
    ·exact ⟨(obE rfl rfl rfl), (obE rfl rfl rfl), trivial⟩
    ·kernel_rfl) ?_
   refine D_region ?_
   refine DL_c (mvI rfl) ?_
   refine DL_c (op_add _ _ rfl rfl (i64w (by omega))) ?_
   refine DL_c (asI rfl) ?_
   refine DL_nil ?_
   refine ⟨v + 1, ?_, ?_, ?_⟩
   ·omega
   ·skip
    refine Le.mkJ [((3, 0), (20, 0))] [] rfl ?_ ?_ trivial trivial ?_
    ·exact ⟨(lvPr (id := (1, 0)) rfl), (lvI (by rfl)), (lvRr rfl (by ((rw [hf]; simp)))), trivial⟩
    ·exact ⟨(obB rfl rfl rfl rfl (by repeat' (first | exact Lv.v | exact Lv.sl | exact lv_nil | refine lv_cons ?_ ?_))), (obR rfl rfl rfl (by ((rw [hf]; exact (nsl_snoc _ _).symm)))), trivial⟩
    ·kernel_rfl
   ·omega
  ·skip
   have hf := fpre_no hc16
   refine D_skip (hK7 _ ?_)
   clear hK7; try clear K7
   refine D_region ?_
   refine DL_c (mvI rfl) ?_
   refine DL_c (op_add _ _ rfl rfl (i64w (by omega))) ?_
   refine DL_c (asI rfl) ?_
   refine DL_nil ?_
   refine ⟨v + 1, ?_, ?_, ?_⟩
   ·omega
   ·skip
    refine Le.mkJ [] [] rfl ?_ ?_ trivial trivial ?_
    ·exact ⟨(iP rfl), (lvI (by rfl)), (lvRr rfl (by (rw [hf]))), trivial⟩
    ·exact ⟨(obE rfl rfl rfl), (obR rfl rfl rfl (by (rw [hf]))), trivial⟩
    ·kernel_rfl
   ·omega
 ·skip
  obtain rfl : v = n := by omega
  refine D_exit ?_
  refine id (hK3 _ ?_)
  clear hK3; try clear K3
  refine D_seq fun K10 hK10 => ?_
  refine D_region ?_
  refine DL_c (mvR rfl) ?_
  refine DL_c (asR rfl) ?_
  refine DL_nil (hK10 _ ?_)
  clear hK10; try clear K10
  refine D_ret ?_
  exact ret1 (.inr rfl) rfl (.tmp (rfl : _ = AV.ref _ _ _)) (Le.out [] [(3, 0)] (frz0 rfl rfl (by simp) rfl) rfl rfl rfl ⟨rfl, trivial⟩ trivial)
theorem rcand_spec : Spec Try.prog 117 (inSt [rS n Ps h st ord] []) (outSt (.sl (cnd (Rn n Ps) n ord st).length (nsl (cnd (Rn n Ps) n ord st))) []) := by
 have hn := hG.n64
 have hol := ho.len
 have ha := fun a v => ranc33_spec hG h st ord a v
 have hns : ∀ v, v < n → nst st v = st.getD v 0 := fun v hv => nst_eq h012 hst hv
 have e : cnd (Rn n Ps) n ord st = fpre (fun v => decide (v ∈ ord) && decide (nst st v = 1) && !(tst n ord st 1).any fun b => decide (b ≠ v) && Rn n Ps b v) n := by
  unfold cnd fpre
  conv => lhs; rw [tst]
  rw [List.filter_filter]
  refine List.filter_congr fun v _ => ?_
  rw [Bool.and_comm]
  rfl
 rw [e]
 have hany : ∀ v, ((tst n ord st 1).any fun b => decide (b ≠ v) && Rn n Ps b v) = true ↔ ∃ t ∈ ord, t ≠ v ∧ st.getD t 0 = 1 ∧ Rn n Ps t v = true := by
  intro v
  simp only [List.any_eq_true, Bool.and_eq_true, decide_eq_true_eq]
  constructor
  ·rintro ⟨b, hb, hne, hr⟩
   obtain ⟨b1, b2, b3⟩ := tst_mem.1 hb
   rw [hns b b1] at b3
   exact ⟨b, b2, hne, b3, hr⟩
  ·rintro ⟨t, ht, hne, h1, hr⟩
   exact ⟨t, tst_mem.2 ⟨ho.2 t ht, ht, by rw [hns t (ho.2 t ht)]; exact h1⟩, hne, hr⟩
 generalize hp : (fun v => decide (v ∈ ord) && decide (nst st v = 1) && !(tst n ord st 1).any fun b => decide (b ≠ v) && Rn n Ps b v) = p
 have hpv : ∀ v, p v = (decide (v ∈ ord) && decide (nst st v = 1) && !(tst n ord st 1).any fun b => decide (b ≠ v) && Rn n Ps b v) := fun v => by rw [← hp]
 have hPl := hG.len
 have hH := fun v => hasNN_spec ord.length ord v rfl (by omega)
 generalize Rn n Ps = R at *
 refine Spec.ofN Try.func117 rfl Try.ntmps117 rfl ?_
 refine D_seq fun K1 hK1 => ?_
 refine D_region ?_
 refine DL_c (op_box (1, 0) _ rfl rfl) ?_
 refine DL_c (op_as _ (rfl : _ = AV.v (.slice _ _ _))) ?_
 refine DL_nil (hK1 _ ?_)
 clear hK1; try clear K1
 refine D_seq fun K2 hK2 => ?_
 refine D_region ?_
 refine DL_c (op_asN (3, 0) _ 3 1 rfl rfl) ?_
 refine DL_nil (hK2 _ ?_)
 clear hK2; try clear K2
 refine D_seq fun K3 hK3 => ?_
 refine D_seq fun K4 hK4 => ?_
 refine D_region ?_
 refine DL_c (asI rfl) ?_
 refine DL_nil (hK4 _ ?_)
 clear hK4; try clear K4
 refine D_block ?_
 refine D_loopL (α := Nat) (fun v => v ≤ n) 63 [(1, _)] [((1, 0), _)] (fun v => [(4, .v (.int .i64 (v : Int))), (3, .ref (3, 0) 0 (fpre p v).length)]) (fun v => [((3, 0), .row 3 1 (nsl (fpre p v)))]) [] [] (fun v => n - v) 0 ?_ (by
  refine Le.mkJ [] [] rfl ?_ ?_ trivial trivial ?_
  ·exact ⟨(iP rfl), (lvI (by rfl)), (lvRr rfl (by rfl)), trivial⟩
  ·exact ⟨(obE rfl rfl rfl), (obR rfl rfl rfl (by rfl)), trivial⟩
  ·kernel_rfl) ?_
 ·omega
 intro v hv
 have hfl := fpre_len p v
 refine D_seq fun K5 hK5 => ?_
 refine D_seq fun K6 hK6 => ?_
 refine D_region ?_
 refine DL_c (mvI rfl) ?_
 refine DL_c (op_fldP _ inferInstance rfl rfl rfl) ?_
 refine DL_c (op_ldB _ inferInstance rfl rfl (rfl : _ = some (AV.sl _ _))) ?_
 refine DL_c (op_lenS _ inferInstance rfl) ?_
 refine DL_c (op_lss _ _ rfl rfl rfl) ?_
 refine DL_nil (hK6 _ ?_)
 clear hK6; try clear K6
 refine D_splitC rfl (fun hc12 => ?_) (fun hc12 => ?_)
 ·skip
  have hHv := hH v
  have hpx := hpv v
  have hnv := hns v (by omega)
  have hav := hany v
  refine D_skip (hK5 _ ?_)
  clear hK5; try clear K5
  refine D_seq fun K7 hK7 => ?_
  refine D_block ?_
  refine D_seq fun K8 hK8 => ?_
  refine D_seq fun K9 hK9 => ?_
  refine D_region ?_
  refine DL_c (op_fldP _ inferInstance rfl rfl rfl) ?_
  refine DL_c (op_ldB _ inferInstance rfl rfl (rfl : _ = some (AV.sl _ _))) ?_
  refine DL_c (mvI rfl) ?_
  refine DL_c (op_callH inferInstance (by repeat' (first | exact argsLv_nil | refine argsLv_cons ?_ ?_ | exact Lv.v | exact Lv.sl)) (hHv) rfl rfl) ?_
  refine DL_c (op_not _ rfl rfl) ?_
  refine DL_c (mvB rfl) ?_
  refine DL_caseC (fun hg20 => ?_) (fun hg20 => ?_)
  ·skip
   have hf := fpre_no (p := p) (v := v) (by rw [hpx, decide_eq_false (by simpa using hg20)]; rfl)
   refine DL_cn rfl rfl (by decide) ?_
   refine DL_cn rfl rfl (by decide) ?_
   refine DL_cn rfl rfl (by decide) ?_
   refine DL_cn rfl rfl (by decide) ?_
   refine DL_cn rfl rfl (by decide) ?_
   refine DL_cn rfl rfl (by decide) ?_
   refine DL_c (op_pick _ _ _ rfl (rfl : _ = AV.v (.bool _))) ?_
   refine DL_nil (hK9 _ ?_)
   clear hK9; try clear K9
   refine D_cT rfl rfl ?_
   refine D_exit ?_
   refine id (hK7 _ ?_)
   clear hK7; try clear K7
   refine D_le (σ' := mkStI 63 [(1, _), (3, _), (4, _)] [((1, 0), _), ((3, 0), _)] [] []) (by
    refine Le.mkJ [] [] rfl ?_ ?_ trivial trivial ?_
    ·exact ⟨(iP rfl), (iR rfl), (iV rfl), trivial⟩
    ·exact ⟨(obE rfl rfl rfl), (obE rfl rfl rfl), trivial⟩
    ·kernel_rfl) ?_
   refine D_region ?_
   refine DL_c (mvI rfl) ?_
   refine DL_c (op_add _ _ rfl rfl (i64w (by omega))) ?_
   refine DL_c (asI rfl) ?_
   refine DL_nil ?_
   refine ⟨v + 1, ?_, ?_, ?_⟩
   ·omega
   ·skip
    refine Le.mkJ [] [] rfl ?_ ?_ trivial trivial ?_
    ·exact ⟨(iP rfl), (lvI (by rfl)), (lvRr rfl (by ((rw [hf])))), trivial⟩
    ·exact ⟨(obE rfl rfl rfl), (obR rfl rfl rfl (by ((rw [hf])))), trivial⟩
    ·kernel_rfl
   ·omega
  ·skip
   have hvo : v ∈ ord := by simpa using hg20
   refine DL_cy rfl rfl (op_fldP _ inferInstance rfl rfl rfl) ?_
   refine DL_cy rfl rfl (op_ldB _ inferInstance rfl rfl (rfl : _ = some (AV.sl _ _))) ?_
   refine DL_cy rfl rfl (mvI rfl) ?_
   refine DL_cy rfl rfl (op_ixS _ _ inferInstance rfl rfl _ rfl (by omega) (by (simp only [isl_len, bsl_len, psl_len, mrows_len, nsl_len, ws_len, List.length_map, ul_len, psl_len, isl_len, nrows_len, mmap_len, smap_len, dcl_len, blR_len, prL_len, stK_len, inh1_len, st0_len, status32_len]; omega)) (by exact Nat.mul_one _)) ?_
   refine DL_cy rfl rfl (op_ldF _ inferInstance rfl (by exact isl_get _ _ (by omega)) rfl) ?_
   refine DL_cy rfl rfl (op_neq _ _ rfl rfl rfl) ?_
   refine DL_c (op_pick _ _ _ rfl (rfl : _ = AV.v (.bool _))) ?_
   refine DL_nil (hK9 _ ?_)
   clear hK9; try clear K9
   refine D_splitC rfl (fun hc27 => ?_) (fun hc27 => ?_)
   ·skip
    have hf := fpre_no (p := p) (v := v) (by rw [hpx, hnv, decide_eq_false hc27, Bool.and_false]; rfl)
    refine D_exit ?_
    refine id (hK7 _ ?_)
    clear hK7; try clear K7
    refine D_le (σ' := mkStI 63 [(1, _), (3, _), (4, _)] [((1, 0), _), ((3, 0), _)] [] []) (by
     refine Le.mkJ [] [] rfl ?_ ?_ trivial trivial ?_
     ·exact ⟨(iP rfl), (iR rfl), (iV rfl), trivial⟩
     ·exact ⟨(obE rfl rfl rfl), (obE rfl rfl rfl), trivial⟩
     ·kernel_rfl) ?_
    refine D_region ?_
    refine DL_c (mvI rfl) ?_
    refine DL_c (op_add _ _ rfl rfl (i64w (by omega))) ?_
    refine DL_c (asI rfl) ?_
    refine DL_nil ?_
    refine ⟨v + 1, ?_, ?_, ?_⟩
    ·omega
    ·skip
     refine Le.mkJ [] [] rfl ?_ ?_ trivial trivial ?_
     ·exact ⟨(iP rfl), (lvI (by rfl)), (lvRr rfl (by ((rw [hf])))), trivial⟩
     ·exact ⟨(obE rfl rfl rfl), (obR rfl rfl rfl (by ((rw [hf])))), trivial⟩
     ·kernel_rfl
    ·omega
   ·skip
    have hv1 : st.getD v 0 = 1 := hc27
    refine D_skip (hK8 _ ?_)
    clear hK8; try clear K8
    refine D_seq fun K10 hK10 => ?_
    refine D_le (σ' := mkStI 63 [(1, _), (3, _), (4, _)] [((1, 0), _), ((3, 0), _)] [] []) (by
     refine Le.mkJ [] [] rfl ?_ ?_ trivial trivial ?_
     ·exact ⟨(iP rfl), (iR rfl), (iV rfl), trivial⟩
     ·exact ⟨(obE rfl rfl rfl), (obE rfl rfl rfl), trivial⟩
     ·kernel_rfl) ?_
    refine D_region ?_
    refine DL_c (asB rfl) ?_
    refine DL_nil (hK10 _ ?_)
    clear hK10; try clear K10
    refine D_seq fun K11 hK11 => ?_
    refine D_seq fun K12 hK12 => ?_
    refine D_region ?_
    refine DL_c (asI rfl) ?_
    refine DL_nil (hK12 _ ?_)
    clear hK12; try clear K12
    refine D_block ?_
    refine D_loopL (α := Nat × Bool) (fun z => z.1 ≤ ord.length ∧ (z.2 = false ↔ ∃ j, j < z.1 ∧ ord.getD j 0 ≠ v ∧ st.getD (ord.getD j 0) 0 = 1 ∧ R (ord.getD j 0) v = true)) 63 [(1, _), (3, _), (4, _)] [((1, 0), _), ((3, 0), _)] (fun z => [(6, .v (.int .i64 (z.1 : Int))), (5, .v (.bool z.2))]) (fun z => []) [] [] (fun z => ord.length - z.1) (0, true) ?_ (by
     refine Le.mkJ [] [] rfl ?_ ?_ trivial trivial ?_
     ·exact ⟨(iP rfl), (iR rfl), (iV rfl), (lvI (by rfl)), (lvB (by rfl)), trivial⟩
     ·exact ⟨(obE rfl rfl rfl), (obE rfl rfl rfl), trivial⟩
     ·kernel_rfl) ?_
    ·exact ⟨Nat.zero_le _, by simp⟩
    intro z hz
    obtain ⟨i, fb⟩ := z
    obtain ⟨hi, hfb⟩ := hz
    simp only at hi hfb ⊢
    refine D_seq fun K13 hK13 => ?_
    refine D_seq fun K14 hK14 => ?_
    refine D_region ?_
    refine DL_c (mvI rfl) ?_
    refine DL_c (op_fldP _ inferInstance rfl rfl rfl) ?_
    refine DL_c (op_ldB _ inferInstance rfl rfl (rfl : _ = some (AV.sl _ _))) ?_
    refine DL_c (op_lenS _ inferInstance rfl) ?_
    refine DL_c (op_lss _ _ rfl rfl rfl) ?_
    refine DL_nil (hK14 _ ?_)
    clear hK14; try clear K14
    refine D_splitC rfl (fun hc32 => ?_) (fun hc32 => ?_)
    ·skip
     obtain ⟨t, ht⟩ : ∃ t, t = ord.getD i 0 := ⟨_, rfl⟩
     have htm : t ∈ ord := ht ▸ getD_mem (by omega)
     have htn := ho.2 t htm
     have hno : ¬ (t ≠ v ∧ st.getD t 0 = 1 ∧ R t v = true) → (fb = false ↔ ∃ j, j < i + 1 ∧ ord.getD j 0 ≠ v ∧ st.getD (ord.getD j 0) 0 = 1 ∧ R (ord.getD j 0) v = true) := fun hh => by
      rw [hfb]
      constructor
      ·rintro ⟨j, h4, h5⟩; exact ⟨j, by omega, h5⟩
      ·rintro ⟨j, h4, h5⟩
       by_cases hj : j = i
       ·subst hj; rw [← ht] at h5; exact absurd h5 hh
       ·exact ⟨j, by omega, h5⟩
     refine D_skip (hK13 _ ?_)
     clear hK13; try clear K13
     refine D_seq fun K15 hK15 => ?_
     refine D_block ?_
     refine D_seq fun K16 hK16 => ?_
     refine D_region ?_
     refine DL_c (op_fldP _ inferInstance rfl rfl rfl) ?_
     refine DL_c (op_ldB _ inferInstance rfl rfl (rfl : _ = some (AV.sl _ _))) ?_
     refine DL_c (mvI rfl) ?_
     refine DL_c (op_ixS _ _ inferInstance rfl rfl _ rfl (by omega) (by (simp only [isl_len, bsl_len, psl_len, mrows_len, nsl_len, ws_len, List.length_map, ul_len, psl_len, isl_len, nrows_len, mmap_len, smap_len, dcl_len, blR_len, prL_len, stK_len, inh1_len, st0_len, status32_len]; omega)) (by exact Nat.mul_one _)) ?_
     refine DL_c (op_ldF _ inferInstance rfl (by exact (nsl_get _ _ (by omega)).trans (by rw [← ht])) rfl) ?_
     refine DL_c (asI rfl) ?_
     refine DL_nil (hK16 _ ?_)
     clear hK16; try clear K16
     refine D_seq fun K17 hK17 => ?_
     refine D_region ?_
     refine DL_c (mvI rfl) ?_
     refine DL_c (mvI rfl) ?_
     refine DL_c (op_neq _ _ rfl rfl rfl) ?_
     refine DL_c (mvB rfl) ?_
     refine DL_caseC (fun hg43 => ?_) (fun hg43 => ?_)
     ·skip
      refine DL_cy rfl rfl (op_fldP _ inferInstance rfl rfl rfl) ?_
      refine DL_cy rfl rfl (op_ldB _ inferInstance rfl rfl (rfl : _ = some (AV.sl _ _))) ?_
      refine DL_cy rfl rfl (mvI rfl) ?_
      refine DL_cy rfl rfl (op_ixS _ _ inferInstance rfl rfl t rfl (by omega) (by rw [isl_len]; omega) (Nat.mul_one _)) ?_
      refine DL_cy rfl rfl (op_ldF _ inferInstance rfl (by exact isl_get _ _ (by omega)) rfl) ?_
      refine DL_cy rfl rfl (op_eql _ _ rfl rfl rfl) ?_
      refine DL_c (op_pick _ _ _ rfl (rfl : _ = AV.v (.bool _))) ?_
      refine DL_c (mvB rfl) ?_
      refine DL_caseC (fun hg51 => ?_) (fun hg51 => ?_)
      ·skip
       refine DL_cy rfl rfl (op_ldBA _ inferInstance rfl rfl rfl rfl) ?_
       refine DL_cy rfl rfl (mvI rfl) ?_
       refine DL_cy rfl rfl (mvI rfl) ?_
       refine DL_cy rfl rfl (op_callH inferInstance (by repeat' (first | exact argsLv_nil | refine argsLv_cons ?_ ?_ | exact Lv.v | exact Lv.sl | refine Lv.agg rfl ?_ | exact lv_nil | refine lv_cons ?_ ?_)) (ha t v) rfl rfl) ?_
       refine DL_c (op_pick _ _ _ rfl (rfl : _ = AV.v (.bool _))) ?_
       refine DL_nil (hK17 _ ?_)
       clear hK17; try clear K17
       refine D_splitC rfl (fun hc56 => ?_) (fun hc56 => ?_)
       ·skip
        refine D_le (σ' := mkStI 63 [(1, _), (3, _), (4, _), (6, _)] [((1, 0), _), ((3, 0), _)] [] []) (by
         refine Le.mkJ [] [] rfl ?_ ?_ trivial trivial ?_
         ·exact ⟨(iP rfl), (iR rfl), (iV rfl), (iV rfl), trivial⟩
         ·exact ⟨(obE rfl rfl rfl), (obE rfl rfl rfl), trivial⟩
         ·kernel_rfl) ?_
        refine D_region ?_
        refine DL_c (asB rfl) ?_
        refine DL_nil (hK15 _ ?_)
        clear hK15; try clear K15
        refine D_region ?_
        refine DL_c (mvI rfl) ?_
        refine DL_c (op_add _ _ rfl rfl (i64w (by omega))) ?_
        refine DL_c (asI rfl) ?_
        refine DL_nil ?_
        refine ⟨(i + 1, false), ?_, ?_, ?_⟩
        ·exact ⟨by simp only; omega, by simp only; exact ⟨fun _ => ⟨i, by omega, by rw [← ht]; exact ⟨by omega, hg51, hc56⟩⟩, fun _ => trivial⟩⟩
        ·skip
         refine Le.mkJ [] [] rfl ?_ ?_ trivial trivial ?_
         ·exact ⟨(iP rfl), (iR rfl), (iV rfl), (lvI (by rfl)), (lvB (by rfl)), trivial⟩
         ·exact ⟨(obE rfl rfl rfl), (obE rfl rfl rfl), trivial⟩
         ·kernel_rfl
        ·simp only; omega
       ·skip
        refine D_skip (hK15 _ ?_)
        clear hK15; try clear K15
        refine D_le (σ' := mkStI 63 [(1, _), (3, _), (4, _), (5, _), (6, _)] [((1, 0), _), ((3, 0), _)] [] []) (by
         refine Le.mkJ [] [] rfl ?_ ?_ trivial trivial ?_
         ·exact ⟨(iP rfl), (iR rfl), (iV rfl), (iV rfl), (iV rfl), trivial⟩
         ·exact ⟨(obE rfl rfl rfl), (obE rfl rfl rfl), trivial⟩
         ·kernel_rfl) ?_
        refine D_region ?_
        refine DL_c (mvI rfl) ?_
        refine DL_c (op_add _ _ rfl rfl (i64w (by omega))) ?_
        refine DL_c (asI rfl) ?_
        refine DL_nil ?_
        refine ⟨(i + 1, fb), ?_, ?_, ?_⟩
        ·exact ⟨by simp only; omega, hno fun hh => by rw [hc56] at hh; cases hh.2.2⟩
        ·skip
         refine Le.mkJ [] [] rfl ?_ ?_ trivial trivial ?_
         ·exact ⟨(iP rfl), (iR rfl), (iV rfl), (lvI (by rfl)), (lvB (by rfl)), trivial⟩
         ·exact ⟨(obE rfl rfl rfl), (obE rfl rfl rfl), trivial⟩
         ·kernel_rfl
        ·simp only; omega
      ·skip
       refine DL_cn rfl rfl (by decide) ?_
       refine DL_cn rfl rfl (by decide) ?_
       refine DL_cn rfl rfl (by decide) ?_
       refine DL_cn rfl rfl (by decide) ?_
       refine DL_c (op_pick _ _ _ rfl (rfl : _ = AV.v (.bool _))) ?_
       refine DL_nil (hK17 _ ?_)
       clear hK17; try clear K17
       refine D_cF rfl rfl ?_
       refine D_skip (hK15 _ ?_)
       clear hK15; try clear K15
       refine D_le (σ' := mkStI 63 [(1, _), (3, _), (4, _), (5, _), (6, _)] [((1, 0), _), ((3, 0), _)] [] []) (by
        refine Le.mkJ [] [] rfl ?_ ?_ trivial trivial ?_
        ·exact ⟨(iP rfl), (iR rfl), (iV rfl), (iV rfl), (iV rfl), trivial⟩
        ·exact ⟨(obE rfl rfl rfl), (obE rfl rfl rfl), trivial⟩
        ·kernel_rfl) ?_
       refine D_region ?_
       refine DL_c (mvI rfl) ?_
       refine DL_c (op_add _ _ rfl rfl (i64w (by omega))) ?_
       refine DL_c (asI rfl) ?_
       refine DL_nil ?_
       refine ⟨(i + 1, fb), ?_, ?_, ?_⟩
       ·exact ⟨by simp only; omega, hno fun hh => hg51 hh.2.1⟩
       ·skip
        refine Le.mkJ [] [] rfl ?_ ?_ trivial trivial ?_
        ·exact ⟨(iP rfl), (iR rfl), (iV rfl), (lvI (by rfl)), (lvB (by rfl)), trivial⟩
        ·exact ⟨(obE rfl rfl rfl), (obE rfl rfl rfl), trivial⟩
        ·kernel_rfl
       ·simp only; omega
     ·skip
      refine DL_cn rfl rfl (by decide) ?_
      refine DL_cn rfl rfl (by decide) ?_
      refine DL_cn rfl rfl (by decide) ?_
      refine DL_cn rfl rfl (by decide) ?_
      refine DL_cn rfl rfl (by decide) ?_
      refine DL_cn rfl rfl (by decide) ?_
      refine DL_c (op_pick _ _ _ rfl (rfl : _ = AV.v (.bool _))) ?_
      refine DL_c (mvB rfl) ?_
      refine DL_cn rfl rfl (by decide) ?_
      refine DL_cn rfl rfl (by decide) ?_
      refine DL_cn rfl rfl (by decide) ?_
      refine DL_cn rfl rfl (by decide) ?_
      refine DL_c (op_pick _ _ _ rfl (rfl : _ = AV.v (.bool _))) ?_
      refine DL_nil (hK17 _ ?_)
      clear hK17; try clear K17
      refine D_cF rfl rfl ?_
      refine D_skip (hK15 _ ?_)
      clear hK15; try clear K15
      refine D_le (σ' := mkStI 63 [(1, _), (3, _), (4, _), (5, _), (6, _)] [((1, 0), _), ((3, 0), _)] [] []) (by
       refine Le.mkJ [] [] rfl ?_ ?_ trivial trivial ?_
       ·exact ⟨(iP rfl), (iR rfl), (iV rfl), (iV rfl), (iV rfl), trivial⟩
       ·exact ⟨(obE rfl rfl rfl), (obE rfl rfl rfl), trivial⟩
       ·kernel_rfl) ?_
      refine D_region ?_
      refine DL_c (mvI rfl) ?_
      refine DL_c (op_add _ _ rfl rfl (i64w (by omega))) ?_
      refine DL_c (asI rfl) ?_
      refine DL_nil ?_
      refine ⟨(i + 1, fb), ?_, ?_, ?_⟩
      ·exact ⟨by simp only; omega, hno fun hh => hh.1 (by omega)⟩
      ·skip
       refine Le.mkJ [] [] rfl ?_ ?_ trivial trivial ?_
       ·exact ⟨(iP rfl), (iR rfl), (iV rfl), (lvI (by rfl)), (lvB (by rfl)), trivial⟩
       ·exact ⟨(obE rfl rfl rfl), (obE rfl rfl rfl), trivial⟩
       ·kernel_rfl
      ·simp only; omega
    ·skip
     have hfin : (∃ t ∈ ord, t ≠ v ∧ st.getD t 0 = 1 ∧ R t v = true) ↔ fb = false := by
      rw [hfb]
      constructor
      ·rintro ⟨t, ht, h5⟩
       obtain ⟨j, hj, rfl⟩ := List.getElem_of_mem ht
       exact ⟨j, by omega, by rw [getD_at ord j 0 hj]; exact h5⟩
      ·rintro ⟨j, h4, h5⟩
       exact ⟨ord.getD j 0, getD_mem (by omega), h5⟩
     refine D_exit ?_
     refine id (hK11 _ ?_)
     clear hK11; try clear K11
     refine D_seq fun K18 hK18 => ?_
     refine D_region ?_
     refine DL_c (mvB rfl) ?_
     refine DL_nil (hK18 _ ?_)
     clear hK18; try clear K18
     refine D_splitC rfl (fun hc57 => ?_) (fun hc57 => ?_)
     ·skip
      have hf := fpre_yes (p := p) (v := v) (by
       rw [hpx, decide_eq_true hvo, hnv, decide_eq_true hv1, Bool.true_and, Bool.true_and, Bool.not_eq_true', Bool.eq_false_iff]
       intro hc
       have := hfin.1 (hav.1 hc)
       rw [hc57] at this; cases this)
      refine D_region ?_
      refine DL_c (mvR rfl) ?_
      refine DL_c (mvI rfl) ?_
      refine DL_c (op_bsF _ _ inferInstance rfl (by rfl) (by simp <;> rfl) (by decide) rfl) ?_
      refine DL_c (op_ap (61, 0) _ _ inferInstance rfl rfl (by (simp only [isl_len, bsl_len, psl_len, mrows_len, nsl_len, ws_len, List.length_map, ul_len, psl_len, isl_len, nrows_len, mmap_len, smap_len, dcl_len, blR_len, prL_len, stK_len, inh1_len, st0_len, status32_len]; omega)) (by (refine .sl ?_; (simp [isl]; done))) (by omega) rfl (rfl) (rfl)) ?_
      refine DL_c (asR rfl) ?_
      refine DL_nil (hK7 _ ?_)
      clear hK7; try clear K7
      refine D_region ?_
      refine DL_c (mvI rfl) ?_
      refine DL_c (op_add _ _ rfl rfl (i64w (by omega))) ?_
      refine DL_c (asI rfl) ?_
      refine DL_nil ?_
      refine ⟨v + 1, ?_, ?_, ?_⟩
      ·omega
      ·skip
       refine Le.mkJ [((3, 0), (61, 0))] [] rfl ?_ ?_ trivial trivial ?_
       ·exact ⟨(lvPr (id := (1, 0)) rfl), (lvI (by rfl)), (lvRr rfl (by ((rw [hf]; simp; done)))), trivial⟩
       ·exact ⟨(obB rfl rfl rfl rfl (by repeat' (first | exact Lv.v | exact Lv.sl | exact lv_nil | refine lv_cons ?_ ?_))), (obR rfl rfl rfl (by ((rw [hf]; exact (nsl_snoc _ _).symm)))), trivial⟩
       ·kernel_rfl
      ·omega
     ·skip
      have hf := fpre_no (p := p) (v := v) (by rw [hpx, hav.2 (hfin.2 hc57), Bool.not_true, Bool.and_false])
      refine D_skip (hK7 _ ?_)
      clear hK7; try clear K7
      refine D_region ?_
      refine DL_c (mvI rfl) ?_
      refine DL_c (op_add _ _ rfl rfl (i64w (by omega))) ?_
      refine DL_c (asI rfl) ?_
      refine DL_nil ?_
      refine ⟨v + 1, ?_, ?_, ?_⟩
      ·omega
      ·skip
       refine Le.mkJ [] [] rfl ?_ ?_ trivial trivial ?_
       ·exact ⟨(iP rfl), (lvI (by rfl)), (lvRr rfl (by ((rw [hf])))), trivial⟩
       ·exact ⟨(obE rfl rfl rfl), (obR rfl rfl rfl (by ((rw [hf])))), trivial⟩
       ·kernel_rfl
      ·omega
 ·skip
  obtain rfl : v = n := by omega
  refine D_exit ?_
  refine id (hK3 _ ?_)
  clear hK3; try clear K3
  refine D_seq fun K19 hK19 => ?_
  refine D_region ?_
  refine DL_c (mvR rfl) ?_
  refine DL_c (asR rfl) ?_
  refine DL_nil (hK19 _ ?_)
  clear hK19; try clear K19
  refine D_ret ?_
  exact ret1 (.inr rfl) rfl (.tmp (rfl : _ = AV.ref _ _ _)) (Le.out [] [(3, 0)] (frz0 rfl rfl (by simp) rfl) rfl rfl rfl ⟨rfl, trivial⟩ trivial)
end
theorem rchoose_spec {n : Nat} {Ps : List (List Int)} (hG : GG n Ps) (h : Nat) (st : List Int) (ord : List Nat) (m : Nat) (l : List Nat) (hm : l.length = m) (h1 : m ≤ 1000) :
  Spec Try.prog 115 (inSt [rS n Ps h st ord, .sl m (nsl l)] []) (outSt (.v (.int .i64 (chs (Rn n Ps) l))) []) := by
 have ha := fun a v => ranc33_spec hG h st ord a v
 have hbd := fun k hk => chsK_bd (R := Rn n Ps) (l := l) k hk
 generalize Rn n Ps = R at *
 refine Spec.ofN Try.func115 rfl Try.ntmps115 rfl ?_
 refine D_seq fun K1 hK1 => ?_
 refine D_region ?_
 refine DL_c (op_box (2, 0) _ rfl rfl) ?_
 refine DL_c (asI rfl) ?_
 refine DL_nil (hK1 _ ?_)
 clear hK1; try clear K1
 refine D_seq fun K2 hK2 => ?_
 refine D_region ?_
 refine DL_c (asI rfl) ?_
 refine DL_nil (hK2 _ ?_)
 clear hK2; try clear K2
 refine D_seq fun K3 hK3 => ?_
 refine D_region ?_
 refine DL_c (asI rfl) ?_
 refine DL_nil (hK3 _ ?_)
 clear hK3; try clear K3
 refine D_seq fun K4 hK4 => ?_
 refine D_seq fun K5 hK5 => ?_
 refine D_region ?_
 refine DL_c (asI rfl) ?_
 refine DL_nil (hK5 _ ?_)
 clear hK5; try clear K5
 refine D_block ?_
 refine D_loopL (α := Nat) (fun k => k ≤ m) 60 [(1, _), (2, _)] [((2, 0), _)] (fun k => [(7, .v (.int .i64 (k : Int))), (5, .v (.int .i64 (chsK R l k).1)), (6, .v (.int .i64 (chsK R l k).2))]) (fun k => []) [] [] (fun k => m - k) 0 ?_ (by
  refine Le.mkJ [] [] rfl ?_ ?_ trivial trivial ?_
  ·exact ⟨(iS rfl), (iP rfl), (lvI (by rfl)), (lvI (by rfl)), (lvI (by rfl)), trivial⟩
  ·exact ⟨(obE rfl rfl rfl), trivial⟩
  ·kernel_rfl) ?_
 ·omega
 intro k hk
 have hb := hbd k (by omega)
 refine D_seq fun K6 hK6 => ?_
 refine D_seq fun K7 hK7 => ?_
 refine D_region ?_
 refine DL_c (mvI rfl) ?_
 refine DL_c (mvS rfl) ?_
 refine DL_c (op_lenS _ inferInstance rfl) ?_
 refine DL_c (op_lss _ _ rfl rfl rfl) ?_
 refine DL_nil (hK7 _ ?_)
 clear hK7; try clear K7
 refine D_splitC rfl (fun hc14 => ?_) (fun hc14 => ?_)
 ·skip
  have hsu := chsK_succ (R := R) (l := l) (k := k) (by omega)
  obtain ⟨v, hv⟩ : ∃ v, v = l.getD k 0 := ⟨_, rfl⟩
  rw [← hv] at hsu
  refine D_skip (hK6 _ ?_)
  clear hK6; try clear K6
  refine D_seq fun K8 hK8 => ?_
  refine D_block ?_
  refine D_seq fun K9 hK9 => ?_
  refine D_region ?_
  refine DL_c (asI rfl) ?_
  refine DL_nil (hK9 _ ?_)
  clear hK9; try clear K9
  refine D_seq fun K10 hK10 => ?_
  refine D_region ?_
  refine DL_c (asI rfl) ?_
  refine DL_nil (hK10 _ ?_)
  clear hK10; try clear K10
  refine D_seq fun K11 hK11 => ?_
  refine D_seq fun K12 hK12 => ?_
  refine D_region ?_
  refine DL_c (asI rfl) ?_
  refine DL_nil (hK12 _ ?_)
  clear hK12; try clear K12
  refine D_block ?_
  refine D_loopL (α := Nat) (fun j => j ≤ m) 60 [(1, _), (2, _), (5, _), (6, _), (7, _)] [((2, 0), _)] (fun j => [(10, .v (.int .i64 (j : Int))), (8, .v (.int .i64 (((l.take j).countP fun x => R x v : Nat) : Int))), (9, .v (.int .i64 (((l.take j).countP fun x => R v x : Nat) : Int)))]) (fun j => []) [] [] (fun j => m - j) 0 ?_ (by
   refine Le.mkJ [] [] rfl ?_ ?_ trivial trivial ?_
   ·exact ⟨(iS rfl), (iP rfl), (iV rfl), (iV rfl), (iV rfl), (lvI (by rfl)), (lvI (by rfl)), (lvI (by rfl)), trivial⟩
   ·exact ⟨(obE rfl rfl rfl), trivial⟩
   ·kernel_rfl) ?_
  ·omega
  intro j hj
  have hu1 := countP_le (p := fun x => R x v) l j
  have hd1 := countP_le (p := fun x => R v x) l j
  refine D_seq fun K13 hK13 => ?_
  refine D_seq fun K14 hK14 => ?_
  refine D_region ?_
  refine DL_c (mvI rfl) ?_
  refine DL_c (mvS rfl) ?_
  refine DL_c (op_lenS _ inferInstance rfl) ?_
  refine DL_c (op_lss _ _ rfl rfl rfl) ?_
  refine DL_nil (hK14 _ ?_)
  clear hK14; try clear K14
  refine D_splitC rfl (fun hc20 => ?_) (fun hc20 => ?_)
  ·skip
   have hu2 := countP_take (p := fun x => R x v) (l := l) (k := j) (by omega)
   have hd2 := countP_take (p := fun x => R v x) (l := l) (k := j) (by omega)
   obtain ⟨x, hx⟩ : ∃ x, x = l.getD j 0 := ⟨_, rfl⟩
   rw [← hx] at hu2 hd2
   refine D_skip (hK13 _ ?_)
   clear hK13; try clear K13
   refine D_seq fun K15 hK15 => ?_
   refine D_block ?_
   refine D_seq fun K16 hK16 => ?_
   refine D_seq fun K17 hK17 => ?_
   refine D_le (σ' := mkStI 60 [(1, _), (2, _), (5, _), (6, _), (7, _), (8, _), (9, _), (10, _)] [((2, 0), _)] [] []) (by
    refine Le.mkJ [] [] rfl ?_ ?_ trivial trivial ?_
    ·exact ⟨(iS rfl), (iP rfl), (iV rfl), (iV rfl), (iV rfl), (iV rfl), (iV rfl), (iV rfl), trivial⟩
    ·exact ⟨(obE rfl rfl rfl), trivial⟩
    ·kernel_rfl) ?_
   refine D_anyL 10 [23, 24, 25, 26, 27, 28, 29, 30, 31, 32] [] (by kernel_rfl) (by kernel_rfl) rfl (nodupO_iff rfl) (rfl : _ = [_, _, _, _, _, _, _, _, _, _]) (rfl : _ = []) ?_
   refine any_c (_, []) (fun τ => op_ldBA _ inferInstance rfl rfl rfl rfl) ?_
   refine any_n (rfl : _ = [_]) ?_
   refine any_c (_, []) (fun τ => op_mv _ (rfl : _ = AV.sl _ _)) ?_
   refine any_n (rfl : _ = [_, _]) ?_
   refine any_c (_, []) (fun τ => op_mv _ (rfl : _ = AV.v (.int _ _))) ?_
   refine any_n (rfl : _ = [_, _, _]) ?_
   refine any_c (_, []) (fun τ => op_ixS _ _ inferInstance rfl rfl _ rfl (by omega) (by (simp only [isl_len, bsl_len, psl_len, mrows_len, nsl_len, ws_len, List.length_map, ul_len, psl_len, isl_len, nrows_len, mmap_len, smap_len, dcl_len, blR_len, prL_len, stK_len, inh1_len, st0_len, status32_len]; omega)) (by exact Nat.mul_one _)) ?_
   refine any_n (rfl : _ = [_, _, _, _]) ?_
   refine any_c (_, []) (fun τ => op_ldF _ inferInstance rfl (by exact (nsl_get _ _ (by omega)).trans (by rw [← hx])) rfl) ?_
   refine any_n (rfl : _ = [_, _, _, _, _]) ?_
   refine any_c (_, []) (fun τ => op_mv _ (rfl : _ = AV.sl _ _)) ?_
   refine any_n (rfl : _ = [_, _, _, _, _, _]) ?_
   refine any_c (_, []) (fun τ => op_mv _ (rfl : _ = AV.v (.int _ _))) ?_
   refine any_n (rfl : _ = [_, _, _, _, _, _, _]) ?_
   refine any_c (_, []) (fun τ => op_ixS _ _ inferInstance rfl rfl _ rfl (by omega) (by (simp only [isl_len, bsl_len, psl_len, mrows_len, nsl_len, ws_len, List.length_map, ul_len, psl_len, isl_len, nrows_len, mmap_len, smap_len, dcl_len, blR_len, prL_len, stK_len, inh1_len, st0_len, status32_len]; omega)) (by exact Nat.mul_one _)) ?_
   refine any_n (rfl : _ = [_, _, _, _, _, _, _, _]) ?_
   refine any_c (_, []) (fun τ => op_ldF _ inferInstance rfl (by exact (nsl_get _ _ (by omega)).trans (by rw [← hv])) rfl) ?_
   refine any_n (rfl : _ = [_, _, _, _, _, _, _, _, _]) ?_
   refine any_c (_, []) (fun τ => (op_callH inferInstance (by repeat' (first | exact argsLv_nil | refine argsLv_cons ?_ ?_ | exact Lv.v | exact Lv.sl | refine Lv.agg rfl ?_ | exact lv_nil | refine lv_cons ?_ ?_)) (ha x v) rfl rfl)) ?_
   refine any_n (rfl : _ = [_, _, _, _, _, _, _, _, _, _]) ?_
   refine any_end ⟨rfl, ?_⟩
   refine DL_nil (hK17 _ ?_)
   clear hK17; try clear K17
   refine D_splitC rfl (fun hc32 => ?_) (fun hc32 => ?_)
   ·skip
    rw [if_pos hc32] at hu2
    refine D_region ?_
    refine DL_c (mvI rfl) ?_
    refine DL_c (op_add _ _ rfl rfl (i64w (by omega))) ?_
    refine DL_c (asI rfl) ?_
    refine DL_nil (hK16 _ ?_)
    clear hK16; try clear K16
    refine D_seq fun K18 hK18 => ?_
    refine D_le (σ' := mkStI 60 [(1, _), (2, _), (5, _), (6, _), (7, _), (8, _), (9, _), (10, _)] [((2, 0), _)] [] []) (by
     refine Le.mkJ [] [] rfl ?_ ?_ trivial trivial ?_
     ·exact ⟨(iS rfl), (iP rfl), (iV rfl), (iV rfl), (iV rfl), (iV rfl), (iV rfl), (iV rfl), trivial⟩
     ·exact ⟨(obE rfl rfl rfl), trivial⟩
     ·kernel_rfl) ?_
    refine D_anyL 10 [35, 36, 37, 38, 39, 40, 41, 42, 43, 44] [] (by kernel_rfl) (by kernel_rfl) rfl (nodupO_iff rfl) (rfl : _ = [_, _, _, _, _, _, _, _, _, _]) (rfl : _ = []) ?_
    refine any_c (_, []) (fun τ => op_ldBA _ inferInstance rfl rfl rfl rfl) ?_
    refine any_n (rfl : _ = [_]) ?_
    refine any_c (_, []) (fun τ => op_mv _ (rfl : _ = AV.sl _ _)) ?_
    refine any_n (rfl : _ = [_, _]) ?_
    refine any_c (_, []) (fun τ => op_mv _ (rfl : _ = AV.v (.int _ _))) ?_
    refine any_n (rfl : _ = [_, _, _]) ?_
    refine any_c (_, []) (fun τ => op_ixS _ _ inferInstance rfl rfl _ rfl (by omega) (by (simp only [isl_len, bsl_len, psl_len, mrows_len, nsl_len, ws_len, List.length_map, ul_len, psl_len, isl_len, nrows_len, mmap_len, smap_len, dcl_len, blR_len, prL_len, stK_len, inh1_len, st0_len, status32_len]; omega)) (by exact Nat.mul_one _)) ?_
    refine any_n (rfl : _ = [_, _, _, _]) ?_
    refine any_c (_, []) (fun τ => op_ldF _ inferInstance rfl (by exact (nsl_get _ _ (by omega)).trans (by rw [← hv])) rfl) ?_
    refine any_n (rfl : _ = [_, _, _, _, _]) ?_
    refine any_c (_, []) (fun τ => op_mv _ (rfl : _ = AV.sl _ _)) ?_
    refine any_n (rfl : _ = [_, _, _, _, _, _]) ?_
    refine any_c (_, []) (fun τ => op_mv _ (rfl : _ = AV.v (.int _ _))) ?_
    refine any_n (rfl : _ = [_, _, _, _, _, _, _]) ?_
    refine any_c (_, []) (fun τ => op_ixS _ _ inferInstance rfl rfl _ rfl (by omega) (by (simp only [isl_len, bsl_len, psl_len, mrows_len, nsl_len, ws_len, List.length_map, ul_len, psl_len, isl_len, nrows_len, mmap_len, smap_len, dcl_len, blR_len, prL_len, stK_len, inh1_len, st0_len, status32_len]; omega)) (by exact Nat.mul_one _)) ?_
    refine any_n (rfl : _ = [_, _, _, _, _, _, _, _]) ?_
    refine any_c (_, []) (fun τ => op_ldF _ inferInstance rfl (by exact (nsl_get _ _ (by omega)).trans (by rw [← hx])) rfl) ?_
    refine any_n (rfl : _ = [_, _, _, _, _, _, _, _, _]) ?_
    refine any_c (_, []) (fun τ => (op_callH inferInstance (by repeat' (first | exact argsLv_nil | refine argsLv_cons ?_ ?_ | exact Lv.v | exact Lv.sl | refine Lv.agg rfl ?_ | exact lv_nil | refine lv_cons ?_ ?_)) (ha v x) rfl rfl)) ?_
    refine any_n (rfl : _ = [_, _, _, _, _, _, _, _, _, _]) ?_
    refine any_end ⟨rfl, ?_⟩
    refine DL_nil (hK18 _ ?_)
    clear hK18; try clear K18
    refine D_splitC rfl (fun hc44 => ?_) (fun hc44 => ?_)
    ·skip
     rw [if_pos hc44] at hd2
     refine D_region ?_
     refine DL_c (mvI rfl) ?_
     refine DL_c (op_add _ _ rfl rfl (i64w (by omega))) ?_
     refine DL_c (asI rfl) ?_
     refine DL_nil (hK15 _ ?_)
     clear hK15; try clear K15
     refine D_region ?_
     refine DL_c (mvI rfl) ?_
     refine DL_c (op_add _ _ rfl rfl (i64w (by omega))) ?_
     refine DL_c (asI rfl) ?_
     refine DL_nil ?_
     refine ⟨j + 1, ?_, ?_, ?_⟩
     ·omega
     ·skip
      refine Le.mkJ [] [] rfl ?_ ?_ trivial trivial ?_
      ·exact ⟨(iS rfl), (iP rfl), (iV rfl), (iV rfl), (iV rfl), (lvI (by rfl)), (lvI (by omega)), (lvI (by omega)), trivial⟩
      ·exact ⟨(obE rfl rfl rfl), trivial⟩
      ·kernel_rfl
     ·omega
    ·skip
     rw [if_neg (by simp [hc44])] at hd2
     refine D_skip (hK15 _ ?_)
     clear hK15; try clear K15
     refine D_region ?_
     refine DL_c (mvI rfl) ?_
     refine DL_c (op_add _ _ rfl rfl (i64w (by omega))) ?_
     refine DL_c (asI rfl) ?_
     refine DL_nil ?_
     refine ⟨j + 1, ?_, ?_, ?_⟩
     ·omega
     ·skip
      refine Le.mkJ [] [] rfl ?_ ?_ trivial trivial ?_
      ·exact ⟨(iS rfl), (iP rfl), (iV rfl), (iV rfl), (iV rfl), (lvI (by rfl)), (lvI (by omega)), (lvI (by omega)), trivial⟩
      ·exact ⟨(obE rfl rfl rfl), trivial⟩
      ·kernel_rfl
     ·omega
   ·skip
    rw [if_neg (by simp [hc32])] at hu2
    refine D_skip (hK16 _ ?_)
    clear hK16; try clear K16
    refine D_seq fun K19 hK19 => ?_
    refine D_le (σ' := mkStI 60 [(1, _), (2, _), (5, _), (6, _), (7, _), (8, _), (9, _), (10, _)] [((2, 0), _)] [] []) (by
     refine Le.mkJ [] [] rfl ?_ ?_ trivial trivial ?_
     ·exact ⟨(iS rfl), (iP rfl), (iV rfl), (iV rfl), (iV rfl), (iV rfl), (iV rfl), (iV rfl), trivial⟩
     ·exact ⟨(obE rfl rfl rfl), trivial⟩
     ·kernel_rfl) ?_
    refine D_anyL 10 [35, 36, 37, 38, 39, 40, 41, 42, 43, 44] [] (by kernel_rfl) (by kernel_rfl) rfl (nodupO_iff rfl) (rfl : _ = [_, _, _, _, _, _, _, _, _, _]) (rfl : _ = []) ?_
    refine any_c (_, []) (fun τ => op_ldBA _ inferInstance rfl rfl rfl rfl) ?_
    refine any_n (rfl : _ = [_]) ?_
    refine any_c (_, []) (fun τ => op_mv _ (rfl : _ = AV.sl _ _)) ?_
    refine any_n (rfl : _ = [_, _]) ?_
    refine any_c (_, []) (fun τ => op_mv _ (rfl : _ = AV.v (.int _ _))) ?_
    refine any_n (rfl : _ = [_, _, _]) ?_
    refine any_c (_, []) (fun τ => op_ixS _ _ inferInstance rfl rfl _ rfl (by omega) (by (simp only [isl_len, bsl_len, psl_len, mrows_len, nsl_len, ws_len, List.length_map, ul_len, psl_len, isl_len, nrows_len, mmap_len, smap_len, dcl_len, blR_len, prL_len, stK_len, inh1_len, st0_len, status32_len]; omega)) (by exact Nat.mul_one _)) ?_
    refine any_n (rfl : _ = [_, _, _, _]) ?_
    refine any_c (_, []) (fun τ => op_ldF _ inferInstance rfl (by exact (nsl_get _ _ (by omega)).trans (by rw [← hv])) rfl) ?_
    refine any_n (rfl : _ = [_, _, _, _, _]) ?_
    refine any_c (_, []) (fun τ => op_mv _ (rfl : _ = AV.sl _ _)) ?_
    refine any_n (rfl : _ = [_, _, _, _, _, _]) ?_
    refine any_c (_, []) (fun τ => op_mv _ (rfl : _ = AV.v (.int _ _))) ?_
    refine any_n (rfl : _ = [_, _, _, _, _, _, _]) ?_
    refine any_c (_, []) (fun τ => op_ixS _ _ inferInstance rfl rfl _ rfl (by omega) (by (simp only [isl_len, bsl_len, psl_len, mrows_len, nsl_len, ws_len, List.length_map, ul_len, psl_len, isl_len, nrows_len, mmap_len, smap_len, dcl_len, blR_len, prL_len, stK_len, inh1_len, st0_len, status32_len]; omega)) (by exact Nat.mul_one _)) ?_
    refine any_n (rfl : _ = [_, _, _, _, _, _, _, _]) ?_
    refine any_c (_, []) (fun τ => op_ldF _ inferInstance rfl (by exact (nsl_get _ _ (by omega)).trans (by rw [← hx])) rfl) ?_
    refine any_n (rfl : _ = [_, _, _, _, _, _, _, _, _]) ?_
    refine any_c (_, []) (fun τ => (op_callH inferInstance (by repeat' (first | exact argsLv_nil | refine argsLv_cons ?_ ?_ | exact Lv.v | exact Lv.sl | refine Lv.agg rfl ?_ | exact lv_nil | refine lv_cons ?_ ?_)) (ha v x) rfl rfl)) ?_
    refine any_n (rfl : _ = [_, _, _, _, _, _, _, _, _, _]) ?_
    refine any_end ⟨rfl, ?_⟩
    refine DL_nil (hK19 _ ?_)
    clear hK19; try clear K19
    refine D_splitC rfl (fun hc44 => ?_) (fun hc44 => ?_)
    ·skip
     rw [if_pos hc44] at hd2
     refine D_region ?_
     refine DL_c (mvI rfl) ?_
     refine DL_c (op_add _ _ rfl rfl (i64w (by omega))) ?_
     refine DL_c (asI rfl) ?_
     refine DL_nil (hK15 _ ?_)
     clear hK15; try clear K15
     refine D_region ?_
     refine DL_c (mvI rfl) ?_
     refine DL_c (op_add _ _ rfl rfl (i64w (by omega))) ?_
     refine DL_c (asI rfl) ?_
     refine DL_nil ?_
     refine ⟨j + 1, ?_, ?_, ?_⟩
     ·omega
     ·skip
      refine Le.mkJ [] [] rfl ?_ ?_ trivial trivial ?_
      ·exact ⟨(iS rfl), (iP rfl), (iV rfl), (iV rfl), (iV rfl), (lvI (by rfl)), (lvI (by omega)), (lvI (by omega)), trivial⟩
      ·exact ⟨(obE rfl rfl rfl), trivial⟩
      ·kernel_rfl
     ·omega
    ·skip
     rw [if_neg (by simp [hc44])] at hd2
     refine D_skip (hK15 _ ?_)
     clear hK15; try clear K15
     refine D_region ?_
     refine DL_c (mvI rfl) ?_
     refine DL_c (op_add _ _ rfl rfl (i64w (by omega))) ?_
     refine DL_c (asI rfl) ?_
     refine DL_nil ?_
     refine ⟨j + 1, ?_, ?_, ?_⟩
     ·omega
     ·skip
      refine Le.mkJ [] [] rfl ?_ ?_ trivial trivial ?_
      ·exact ⟨(iS rfl), (iP rfl), (iV rfl), (iV rfl), (iV rfl), (lvI (by rfl)), (lvI (by omega)), (lvI (by omega)), trivial⟩
      ·exact ⟨(obE rfl rfl rfl), trivial⟩
      ·kernel_rfl
     ·omega
  ·skip
   have hju : (l.take j).countP (fun x => R x v) = upc R l v := by rw [List.take_of_length_le (by omega)]; rfl
   have hjd : (l.take j).countP (fun x => R v x) = dnc R l v := by rw [List.take_of_length_le (by omega)]; rfl
   rw [hju] at hu1 ⊢
   rw [hjd] at hd1 ⊢
   refine D_exit ?_
   refine id (hK11 _ ?_)
   clear hK11; try clear K11
   refine D_seq fun K20 hK20 => ?_
   refine D_region ?_
   refine DL_c (mvI rfl) ?_
   refine DL_c (mvI rfl) ?_
   refine DL_c (op_min _ _ rfl rfl (show min (upc R l v : Int) (dnc R l v : Int) = ((min (upc R l v) (dnc R l v) : Nat) : Int) by omega)) ?_
   refine DL_c (mvI rfl) ?_
   refine DL_c (op_gtr _ _ rfl rfl rfl) ?_
   refine DL_nil (hK20 _ ?_)
   clear hK20; try clear K20
   refine D_splitC rfl (fun hc51 => ?_) (fun hc51 => ?_)
   ·skip
    have hs1 : chsK R l (k + 1) = ((v : Int), ((min (upc R l v) (dnc R l v) : Nat) : Int)) := hsu.trans (if_pos hc51)
    refine D_seq fun K21 hK21 => ?_
    refine D_region ?_
    refine DL_c (mvS rfl) ?_
    refine DL_c (mvI rfl) ?_
    refine DL_c (op_ixS _ _ inferInstance rfl rfl _ rfl (by omega) (by (simp only [isl_len, bsl_len, psl_len, mrows_len, nsl_len, ws_len, List.length_map, ul_len, psl_len, isl_len, nrows_len, mmap_len, smap_len, dcl_len, blR_len, prL_len, stK_len, inh1_len, st0_len, status32_len]; omega)) (by exact Nat.mul_one _)) ?_
    refine DL_c (op_ldF _ inferInstance rfl (by exact (nsl_get _ _ (by omega)).trans (by rw [← hv])) rfl) ?_
    refine DL_c (asI rfl) ?_
    refine DL_nil (hK21 _ ?_)
    clear hK21; try clear K21
    refine D_region ?_
    refine DL_c (mvI rfl) ?_
    refine DL_c (mvI rfl) ?_
    refine DL_c (op_min _ _ rfl rfl (show min (upc R l v : Int) (dnc R l v : Int) = ((min (upc R l v) (dnc R l v) : Nat) : Int) by omega)) ?_
    refine DL_c (asI rfl) ?_
    refine DL_nil (hK8 _ ?_)
    clear hK8; try clear K8
    refine D_le (σ' := mkStI 60 [(1, _), (2, _), (5, _), (6, _), (7, _)] [((2, 0), _)] [] []) (by
     refine Le.mkJ [] [] rfl ?_ ?_ trivial trivial ?_
     ·exact ⟨(iS rfl), (iP rfl), (iV rfl), (iV rfl), (iV rfl), trivial⟩
     ·exact ⟨(obE rfl rfl rfl), trivial⟩
     ·kernel_rfl) ?_
    refine D_region ?_
    refine DL_c (mvI rfl) ?_
    refine DL_c (op_add _ _ rfl rfl (i64w (by omega))) ?_
    refine DL_c (asI rfl) ?_
    refine DL_nil ?_
    refine ⟨k + 1, ?_, ?_, ?_⟩
    ·omega
    ·skip
     refine Le.mkJ [] [] rfl ?_ ?_ trivial trivial ?_
     ·exact ⟨(iS rfl), (iP rfl), (lvI (by rfl)), (lvI (by ((rw [hs1])))), (lvI (by ((rw [hs1])))), trivial⟩
     ·exact ⟨(obE rfl rfl rfl), trivial⟩
     ·kernel_rfl
    ·omega
   ·skip
    have hs1 : chsK R l (k + 1) = chsK R l k := hsu.trans (if_neg (by omega))
    refine D_skip (hK8 _ ?_)
    clear hK8; try clear K8
    refine D_region ?_
    refine DL_c (mvI rfl) ?_
    refine DL_c (op_add _ _ rfl rfl (i64w (by omega))) ?_
    refine DL_c (asI rfl) ?_
    refine DL_nil ?_
    refine ⟨k + 1, ?_, ?_, ?_⟩
    ·omega
    ·skip
     refine Le.mkJ [] [] rfl ?_ ?_ trivial trivial ?_
     ·exact ⟨(iS rfl), (iP rfl), (lvI (by rfl)), (lvI (by ((rw [hs1])))), (lvI (by ((rw [hs1])))), trivial⟩
     ·exact ⟨(obE rfl rfl rfl), trivial⟩
     ·kernel_rfl
    ·omega
 ·skip
  refine D_exit ?_
  refine id (hK4 _ ?_)
  clear hK4; try clear K4
  refine D_seq fun K22 hK22 => ?_
  refine D_region ?_
  refine DL_c (mvI rfl) ?_
  refine DL_c (asI rfl) ?_
  refine DL_nil (hK22 _ ?_)
  clear hK22; try clear K22
  refine D_ret ?_
  refine ret1 (.inr rfl) rfl (.tmp (rfl : _ = AV.v (.int _ _))) (Le.out [] [] (lvI ?_) rfl rfl rfl trivial trivial)
  rw [show k = l.length by omega]; rfl
end Go.Proofs.Ytkbkmngbenohkaa
