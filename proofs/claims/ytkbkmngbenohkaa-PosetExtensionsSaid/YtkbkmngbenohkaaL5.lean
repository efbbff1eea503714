/- The law PosetExtensions by the machine. -/
import Derived.Test.YtkbkmngbenohkaaA19
set_option linter.unusedSimpArgs false
set_option linter.unusedVariables false
namespace Go.Proofs.Ytkbkmngbenohkaa
open Go.RowKit

/-! the number of extensions -/
def fac : Nat → Nat
  | 0 => 1
  | d + 1 => (d + 1) * fac d
theorem flatMap_le {α : Type} {f : Nat → List α} {c : Nat} : ∀ (L : List Nat), (∀ a ∈ L, (f a).length ≤ c) → (L.flatMap f).length ≤ L.length * c
  | [], _ => by simp
  | x :: L, h => by
    rw [List.flatMap_cons, List.length_append, List.length_cons, Nat.add_mul, Nat.one_mul]
    have h1 := h x List.mem_cons_self
    have h2 := flatMap_le L fun a ha => h a (List.mem_cons_of_mem _ ha)
    omega
theorem flatMap_if {α : Type} {p : Nat → Bool} {f : Nat → List α} : ∀ (L : List Nat), (L.flatMap fun a => if p a = true then f a else []) = (L.filter p).flatMap f
  | [] => rfl
  | x :: L => by
    rw [List.flatMap_cons, flatMap_if L]
    cases h : p x <;> simp [h]
theorem nodup_of_pw {lt : Lt} {l : List Nat} (h : l.Pairwise fun x y => x ≠ y ∧ lt y x = false) : l.Nodup := h.imp fun h => h.1
theorem allE_fac {n : Nat} {lt : Lt} : ∀ (d : Nat) (l : List Nat), Grow n lt l → l.length + d = n → (allE n lt d l).length ≤ fac d
  | 0, l, _, _ => by simp [allE, fac]
  | d + 1, l, hg, hl => by
    rw [allE, flatMap_if]
    have h1 : ((List.range n).filter (isfree n lt l)).length ≤ d + 1 := by
      have := nodup_le n (l ++ (List.range n).filter (isfree n lt l)) (by
        rw [List.nodup_append]
        refine ⟨nodup_of_pw hg.pw, List.nodup_range.filter _, fun x hx y hy he => ?_⟩
        subst he
        rw [List.mem_filter] at hy
        exact (isfree_iff.1 hy.2).1 hx) (by
        intro x hx
        rcases List.mem_append.1 hx with hx | hx
        · exact hg.bd x hx
        · exact List.mem_range.1 (List.mem_filter.1 hx).1)
      rw [List.length_append] at this; omega
    refine Nat.le_trans (flatMap_le (c := fac d) _ fun a ha => ?_) (Nat.mul_le_mul_right _ h1)
    rw [List.mem_filter] at ha
    exact allE_fac d (l ++ [a]) (.snoc hg (List.mem_range.1 ha.1) ha.2) (by simp; omega)
theorem ext_small {n : Nat} {lt : Lt} (hn : n ≤ 6) : (allE n lt n []).length ≤ 720 := by
  have h1 := allE_fac (n := n) (lt := lt) n [] .nil (by simp)
  have h2 : ∀ k, k ≤ 6 → fac k ≤ 720 := by decide
  exact Nat.le_trans h1 (h2 n hn)
theorem arows_get (L : List (List Nat)) (i : Nat) (h : i < L.length) : (arows L)[i]? = some (.sl (L.getD i []).length (nsl (L.getD i []))) := by simp [arows, h]

theorem extl_cyc (n : Int) (h2 : -9223372036854775808 ≤ n) (h3 : n ≤ 9223372036854775807) (k : Nat) (hk : around n 7 = (k : Int)) (m : Nat) (l : List Int) (hm : l.length = m) (h1 : m ≤ 4611686018427387904) (hr : Rng l) (hC : Cyc k (pairs k l)) (most : Int) :
    Spec Try.prog 10 (inSt [.v (.int .i64 n), .sl m (isl l), .v (.int .i64 most)] []) (outSt (.v (.bool true)) []) := by
  have hk8 := around_hi n 7 (by omega)
  have hp := pairs_spec k (by omega) (by omega) m l hm h1 hr
  have hpl := pairs_len k l
  have hn := rnew_spec k (by omega) _ (pairs k l) rfl (by omega)
  rw [rnewR_cyc (pairs_in k l) hC] at hn
  have ha := around_spec n 7 (by omega) (by omega) h2 h3
  rw [hk] at ha
  refine Spec.ofN Try.func10 rfl Try.ntmps10 rfl ?_
  refine D_seq fun K1 hK1 => ?_
  refine D_region ?_
  refine DL_c (op_as _ (rfl : _ = AV.v (.bool _))) ?_
  refine DL_nil (hK1 _ ?_)
  clear hK1; try clear K1
  refine D_seq fun K2 hK2 => ?_
  refine D_region ?_
  refine DL_c (op_mv _ (rfl : _ = AV.v (.int _ _))) ?_
  refine DL_c (op_callH inferInstance (by repeat' (first | exact argsLv_nil | refine argsLv_cons ?_ ?_ | exact Lv.v | exact Lv.sl | exact Lv.fp | exact Lv.nil | refine Lv.agg rfl ?_ | refine Lv.fn rfl ?_ rfl ?_ | exact lv_nil | refine lv_cons ?_ ?_ | exact Lv.z0)) (ha) rfl rfl) ?_
  refine DL_c (op_as _ (rfl : _ = AV.v (.int _ _))) ?_
  refine DL_nil (hK2 _ ?_)
  clear hK2; try clear K2
  refine D_seq fun K3 hK3 => ?_
  refine D_region ?_
  refine DL_c (op_mv _ (rfl : _ = AV.v (.int _ _))) ?_
  refine DL_c (op_mv _ (rfl : _ = AV.sl _ _)) ?_
  refine DL_c (op_callH inferInstance (by repeat' (first | exact argsLv_nil | refine argsLv_cons ?_ ?_ | exact Lv.v | exact Lv.sl | exact Lv.fp | exact Lv.nil | refine Lv.agg rfl ?_ | refine Lv.fn rfl ?_ rfl ?_ | exact lv_nil | refine lv_cons ?_ ?_ | exact Lv.z0)) (hp) rfl rfl) ?_
  first
    | refine DL_c (op_as _ (rfl : _ = AV.sl _ _)) ?_
    | refine DL_c (op_as _ (rfl : _ = AV.ref _ _ _)) ?_
    | refine DL_c (op_as _ (rfl : _ = AV.v (.slice _ _ _))) ?_
    | refine DL_c (op_as _ (rfl : _ = AV.z)) ?_
  refine DL_nil (hK3 _ ?_)
  clear hK3; try clear K3
  refine D_seq fun K4 hK4 => ?_
  refine D_region ?_
  refine DL_c (op_mv _ (rfl : _ = AV.v (.int _ _))) ?_
  first
    | refine DL_c (op_mv _ (rfl : _ = AV.sl _ _)) ?_
    | refine DL_c (op_mv _ (rfl : _ = AV.ref _ _ _)) ?_
    | refine DL_c (op_mv _ (rfl : _ = AV.v (.slice _ _ _))) ?_
    | refine DL_c (op_mv _ (rfl : _ = AV.z)) ?_
  refine DL_c (op_callH inferInstance (by repeat' (first | exact argsLv_nil | refine argsLv_cons ?_ ?_ | exact Lv.v | exact Lv.sl | exact Lv.fp | exact Lv.nil | refine Lv.agg rfl ?_ | refine Lv.fn rfl ?_ rfl ?_ | exact lv_nil | refine lv_cons ?_ ?_ | exact Lv.z0)) (hn) rfl rfl) ?_
  refine DL_c (op_mv _ (rfl : _ = AV.tup _)) ?_
  first
    | refine DL_c (op_ext _ rfl (rfl : _ = some (AV.agg _))) ?_
    | refine DL_c (op_ext _ rfl (rfl : _ = some (AV.v (.agg _)))) ?_
  refine DL_c (op_ext _ rfl (rfl : _ = some (AV.v (.int _ _)))) ?_
  refine DL_c (op_alloc (9, 0) inferInstance rfl rfl) ?_
  refine DL_c (op_stB _ _ inferInstance rfl rfl rfl rfl (Nat.le_of_ble_eq_true rfl) rfl) ?_
  refine DL_c (op_as _ (rfl : _ = AV.v (.int _ _))) ?_
  refine DL_nil (hK4 _ ?_)
  clear hK4; try clear K4
  refine D_seq fun K5 hK5 => ?_
  refine D_seq fun K6 hK6 => ?_
  refine D_le (σ' := mkStI 85 [(2, _), (7, _), (8, _), (9, _), (10, _)] [((9, 0), _)] [] []) (by
    refine Le.mkJ [] [] rfl ?_ ?_ trivial trivial ?_
    · exact ⟨(iV rfl), (iV rfl), (by first | exact iS rfl | exact iR rfl | exact iV rfl | exact iZ rfl | exact iD rfl), (iP rfl), (iV rfl), trivial⟩
    · exact ⟨(obE rfl rfl rfl), trivial⟩
    · kernel_rfl) ?_
  refine D_region ?_
  refine DL_c (op_mv _ (rfl : _ = AV.v (.int _ _))) ?_
  refine DL_c (op_neq (r := true) _ _ rfl rfl rfl) ?_
  refine DL_nil (hK6 _ ?_)
  clear hK6; try clear K6
  refine D_cT rfl rfl ?_
  refine D_seq fun K7 hK7 => ?_
  refine D_region ?_
  refine DL_c (op_callH inferInstance (by repeat' (first | exact argsLv_nil | refine argsLv_cons ?_ ?_ | exact Lv.v | exact Lv.sl | exact Lv.fp | exact Lv.nil | refine Lv.agg rfl ?_ | refine Lv.fn rfl ?_ rfl ?_ | exact lv_nil | refine lv_cons ?_ ?_ | exact Lv.z0)) (lives_spec) rfl rfl) ?_
  refine DL_c (op_as _ (rfl : _ = AV.v (.bool _))) ?_
  refine DL_nil (hK7 _ ?_)
  clear hK7; try clear K7
  refine D_ret ?_
  refine ret1 (.inr rfl) rfl (.tmp (rfl : _ = AV.v (.bool _))) (Le.out [] [] (lvB ?_) rfl rfl rfl trivial trivial)
  rfl
theorem extl_ok (n : Int) (h2 : -9223372036854775808 ≤ n) (h3 : n ≤ 9223372036854775807) (k : Nat) (hk : around n 7 = (k : Int)) (m : Nat) (l : List Int) (hm : l.length = m) (h1 : m ≤ 4611686018427387904) (hr : Rng l) (hC : ¬ Cyc k (pairs k l)) (most : Int) (hm2 : -9223372036854775808 ≤ most) (hm3 : most ≤ 9223372036854775807) :
    Spec Try.prog 10 (inSt [.v (.int .i64 n), .sl m (isl l), .v (.int .i64 most)] []) (outSt (.v (.bool true)) []) := by
  have hk8 := around_hi n 7 (by omega)
  have hp := pairs_spec k (by omega) (by omega) m l hm h1 hr
  have hpl := pairs_len k l
  have hE := pairs_in k l
  have hn := rnew_spec k (by omega) _ (pairs k l) rfl (by omega)
  rw [rnewR_ok hE hC] at hn
  have ho := new_spec k (by omega) _ (pairs k l) rfl (by omega)
  rw [newR_ok hE hC] at ho
  have ha := around_spec n 7 (by omega) (by omega) h2 h3
  rw [hk] at ha
  obtain ⟨E, hEe⟩ : ∃ E, E = pairs k l := ⟨_, rfl⟩
  rw [← hEe] at hp hpl hE hn ho hC
  have hS := spo_cl hC
  have hw := cloW_words (n := k) (E := E) (by omega)
  have hmt := cloM_mat (n := k) (E := E) (by omega)
  have hal := all_spec k (by omega) _ hmt k [] (by simp)
  rw [mlt_clo hE] at hal
  have hb0 := around_lo most 800 (by omega)
  have hb1 := around_hi most 800 (by omega)
  have hab := around_spec most 800 (by omega) (by omega) hm2 hm3
  have he1 := ext_spec k _ hw (around most 800 - 5) (by omega)
  have he2 := ext_spec k _ hw 1000 (by omega)
  rw [wlt_clo hE] at he1 he2
  have hsm := ext_small (n := k) (lt := cl E) (by omega)
  have hin : ∀ r ∈ allE k (cl E) k [], LinN k (cl E) r := fun r hr => allE_lin hr
  have hhd := allE_head hS k 0 (by omega)
  have hhd : (allE k (cl E) k []).head? = some (lin k (cl E) k) := hhd
  have hex1 : exts k (cl E) 1000 = ((allE k (cl E) k []).length : Int) := by unfold exts extN; rw [if_neg (by omega)]; omega
  have hex2 : exts k (cl E) (around most 800 - 5) = max 0 (min (around most 800 - 5) ((allE k (cl E) k []).length : Int)) := by unfold exts extN; split <;> omega
  rw [hex1] at he2
  rw [hex2] at he1
  obtain ⟨L, hL⟩ : ∃ L, L = allE k (cl E) k [] := ⟨_, rfl⟩
  rw [← hL] at hal he1 he2 hsm hin hhd
  have hli := linear_spec k _ hw (by rw [wlt_clo hE]; exact hS)
  rw [wlt_clo hE] at hli
  have hLp : 0 < L.length := by cases L with
    | nil => cases hhd
    | cons x L => simp
  have h0 : L.getD 0 [] = lin k (cl E) k := by cases L with
    | nil => cases hhd
    | cons x L => simpa using hhd
  have hrl : ∀ i, i < L.length → LinN k (cl E) (L.getD i []) := fun i hi => hin _ (by rw [getD_at _ _ _ hi]; exact List.getElem_mem hi)
  refine Spec.ofN Try.func10 rfl Try.ntmps10 rfl ?_
  refine D_seq fun K1 hK1 => ?_
  refine D_region ?_
  refine DL_c (op_as _ (rfl : _ = AV.v (.bool _))) ?_
  refine DL_nil (hK1 _ ?_)
  clear hK1; try clear K1
  refine D_seq fun K2 hK2 => ?_
  refine D_region ?_
  refine DL_c (op_mv _ (rfl : _ = AV.v (.int _ _))) ?_
  refine DL_c (op_callH inferInstance (by repeat' (first | exact argsLv_nil | refine argsLv_cons ?_ ?_ | exact Lv.v | exact Lv.sl | exact Lv.fp | exact Lv.nil | refine Lv.agg rfl ?_ | refine Lv.fn rfl ?_ rfl ?_ | exact lv_nil | refine lv_cons ?_ ?_ | exact Lv.z0)) (ha) rfl rfl) ?_
  refine DL_c (op_as _ (rfl : _ = AV.v (.int _ _))) ?_
  refine DL_nil (hK2 _ ?_)
  clear hK2; try clear K2
  refine D_seq fun K3 hK3 => ?_
  refine D_region ?_
  refine DL_c (op_mv _ (rfl : _ = AV.v (.int _ _))) ?_
  refine DL_c (op_mv _ (rfl : _ = AV.sl _ _)) ?_
  refine DL_c (op_callH inferInstance (by repeat' (first | exact argsLv_nil | refine argsLv_cons ?_ ?_ | exact Lv.v | exact Lv.sl | exact Lv.fp | exact Lv.nil | refine Lv.agg rfl ?_ | refine Lv.fn rfl ?_ rfl ?_ | exact lv_nil | refine lv_cons ?_ ?_ | exact Lv.z0)) (hp) rfl rfl) ?_
  first
    | refine DL_c (op_as _ (rfl : _ = AV.sl _ _)) ?_
    | refine DL_c (op_as _ (rfl : _ = AV.ref _ _ _)) ?_
    | refine DL_c (op_as _ (rfl : _ = AV.v (.slice _ _ _))) ?_
    | refine DL_c (op_as _ (rfl : _ = AV.z)) ?_
  refine DL_nil (hK3 _ ?_)
  clear hK3; try clear K3
  refine D_seq fun K4 hK4 => ?_
  refine D_region ?_
  refine DL_c (op_mv _ (rfl : _ = AV.v (.int _ _))) ?_
  first
    | refine DL_c (op_mv _ (rfl : _ = AV.sl _ _)) ?_
    | refine DL_c (op_mv _ (rfl : _ = AV.ref _ _ _)) ?_
    | refine DL_c (op_mv _ (rfl : _ = AV.v (.slice _ _ _))) ?_
    | refine DL_c (op_mv _ (rfl : _ = AV.z)) ?_
  refine DL_c (op_callH inferInstance (by repeat' (first | exact argsLv_nil | refine argsLv_cons ?_ ?_ | exact Lv.v | exact Lv.sl | exact Lv.fp | exact Lv.nil | refine Lv.agg rfl ?_ | refine Lv.fn rfl ?_ rfl ?_ | exact lv_nil | refine lv_cons ?_ ?_ | exact Lv.z0)) (hn) rfl rfl) ?_
  refine DL_c (op_mv _ (rfl : _ = AV.tup _)) ?_
  first
    | refine DL_c (op_ext _ rfl (rfl : _ = some (AV.agg _))) ?_
    | refine DL_c (op_ext _ rfl (rfl : _ = some (AV.v (.agg _)))) ?_
  refine DL_c (op_ext _ rfl (rfl : _ = some (AV.v (.int _ _)))) ?_
  refine DL_c (op_alloc (9, 0) inferInstance rfl rfl) ?_
  refine DL_c (op_stB _ _ inferInstance rfl rfl rfl rfl (Nat.le_of_ble_eq_true rfl) rfl) ?_
  refine DL_c (op_as _ (rfl : _ = AV.v (.int _ _))) ?_
  refine DL_nil (hK4 _ ?_)
  clear hK4; try clear K4
  refine D_seq fun K5 hK5 => ?_
  refine D_seq fun K6 hK6 => ?_
  refine D_le (σ' := mkStI 85 [(2, _), (7, _), (8, _), (9, _), (10, _)] [((9, 0), _)] [] []) (by
    refine Le.mkJ [] [] rfl ?_ ?_ trivial trivial ?_
    · exact ⟨(iV rfl), (iV rfl), (by first | exact iS rfl | exact iR rfl | exact iV rfl | exact iZ rfl | exact iD rfl), (iP rfl), (iV rfl), trivial⟩
    · exact ⟨(obE rfl rfl rfl), trivial⟩
    · kernel_rfl) ?_
  refine D_region ?_
  refine DL_c (op_mv _ (rfl : _ = AV.v (.int _ _))) ?_
  refine DL_c (op_neq (r := false) _ _ rfl rfl rfl) ?_
  refine DL_nil (hK6 _ ?_)
  clear hK6; try clear K6
  refine D_cF rfl rfl ?_
  refine D_skip (hK5 _ ?_)
  clear hK5; try clear K5
  refine D_seq fun K7 hK7 => ?_
  refine D_region ?_
  refine DL_c (op_mv _ (rfl : _ = AV.v (.int _ _))) ?_
  first
    | refine DL_c (op_mv _ (rfl : _ = AV.sl _ _)) ?_
    | refine DL_c (op_mv _ (rfl : _ = AV.ref _ _ _)) ?_
    | refine DL_c (op_mv _ (rfl : _ = AV.v (.slice _ _ _))) ?_
    | refine DL_c (op_mv _ (rfl : _ = AV.z)) ?_
  refine DL_c (op_callH inferInstance (by repeat' (first | exact argsLv_nil | refine argsLv_cons ?_ ?_ | exact Lv.v | exact Lv.sl | exact Lv.fp | exact Lv.nil | refine Lv.agg rfl ?_ | refine Lv.fn rfl ?_ rfl ?_ | exact lv_nil | refine lv_cons ?_ ?_ | exact Lv.z0)) (ho) rfl rfl) ?_
  refine DL_c (op_mv _ (rfl : _ = AV.tup _)) ?_
  first
    | refine DL_c (op_ext _ rfl (rfl : _ = some (AV.ptr _ _))) ?_
    | refine DL_c (op_ext _ rfl (rfl : _ = some (AV.fp _ _))) ?_
    | refine DL_c (op_ext _ rfl (rfl : _ = some (AV.v (.pointer _)))) ?_
  refine DL_c (op_ext _ rfl (rfl : _ = some (AV.v (.int _ _)))) ?_
  refine DL_c (op_as _ (rfl : _ = AV.fp _ _)) ?_
  refine DL_c (op_as _ (rfl : _ = AV.v (.int _ _))) ?_
  refine DL_nil (hK7 _ ?_)
  clear hK7; try clear K7
  refine D_seq fun K8 hK8 => ?_
  refine D_seq fun K9 hK9 => ?_
  refine D_region ?_
  refine DL_c (op_mv _ (rfl : _ = AV.fp _ _)) ?_
  refine DL_c (op_eqN _ _ (by kernel_rfl) (.inr ⟨_, _, rfl⟩) rfl) ?_
  refine DL_c (op_mv _ (rfl : _ = AV.v (.bool _))) ?_
  refine DL_cy rfl rfl (op_mv _ (rfl : _ = AV.v (.int _ _))) ?_
  refine DL_cy rfl rfl (op_neq (r := false) _ _ rfl rfl rfl) ?_
  refine DL_c (op_pick _ _ _ rfl (rfl : _ = AV.v (.bool _))) ?_
  refine DL_nil (hK9 _ ?_)
  clear hK9; try clear K9
  refine D_cF rfl rfl ?_
  refine D_skip (hK8 _ ?_)
  clear hK8; try clear K8
  refine D_seq fun K10 hK10 => ?_
  refine D_le (σ' := mkStI 85 [(2, _), (9, _), (11, _)] [((9, 0), _)] [] []) (by
    refine Le.mkJ [] [] rfl ?_ ?_ trivial trivial ?_
    · exact ⟨(iV rfl), (iP rfl), (iF rfl), trivial⟩
    · exact ⟨(obE rfl rfl rfl), trivial⟩
    · kernel_rfl) ?_
  refine D_region ?_
  first
    | refine DL_c (op_ldBA _ inferInstance rfl rfl rfl rfl) ?_
    | refine DL_c (op_ldRA _ inferInstance rfl rfl (by first | rfl | assumption | exact psl_geta _ _ (by omega)) rfl) ?_
    | refine DL_c (op_ldFA _ inferInstance rfl (by first | rfl | assumption | exact psl_geta _ _ (by omega)) rfl) ?_
  refine DL_c (op_callH inferInstance (by repeat' (first | exact argsLv_nil | refine argsLv_cons ?_ ?_ | exact Lv.v | exact Lv.sl | exact Lv.fp | exact Lv.nil | refine Lv.agg rfl ?_ | refine Lv.fn rfl ?_ rfl ?_ | exact lv_nil | refine lv_cons ?_ ?_ | exact Lv.z0)) (hal) rfl rfl) ?_
  refine DL_c (op_as _ (rfl : _ = AV.sl _ _)) ?_
  refine DL_nil (hK10 _ ?_)
  clear hK10; try clear K10
  refine D_seq fun K11 hK11 => ?_
  refine D_region ?_
  refine DL_c (op_mv _ (rfl : _ = AV.v (.int _ _))) ?_
  refine DL_c (op_callH inferInstance (by repeat' (first | exact argsLv_nil | refine argsLv_cons ?_ ?_ | exact Lv.v | exact Lv.sl | exact Lv.fp | exact Lv.nil | refine Lv.agg rfl ?_ | refine Lv.fn rfl ?_ rfl ?_ | exact lv_nil | refine lv_cons ?_ ?_ | exact Lv.z0)) (hab) rfl rfl) ?_
  first
    | refine DL_c (op_sub _ _ rfl rfl (i64w (by omega))) ?_
    | refine DL_c (op_sub _ _ rfl rfl rfl) ?_
  refine DL_c (op_as _ (rfl : _ = AV.v (.int _ _))) ?_
  refine DL_nil (hK11 _ ?_)
  clear hK11; try clear K11
  refine D_seq fun K12 hK12 => ?_
  refine D_seq fun K13 hK13 => ?_
  refine D_region ?_
  refine DL_c (op_mv _ (rfl : _ = AV.fp _ _)) ?_
  refine DL_c (op_mv _ (rfl : _ = AV.v (.int _ _))) ?_
  refine DL_c (op_callH inferInstance (by repeat' (first | exact argsLv_nil | refine argsLv_cons ?_ ?_ | exact Lv.v | exact Lv.sl | exact Lv.fp | exact Lv.nil | refine Lv.agg rfl ?_ | refine Lv.fn rfl ?_ rfl ?_ | exact lv_nil | refine lv_cons ?_ ?_ | exact Lv.z0)) (he1) rfl rfl) ?_
  refine DL_c (op_mv _ (rfl : _ = AV.v (.int _ _))) ?_
  refine DL_c (op_mv _ (rfl : _ = AV.sl _ _)) ?_
  refine DL_c (op_lenS _ inferInstance rfl) ?_
  refine DL_c (op_min _ _ rfl rfl rfl) ?_
  refine DL_c (op_max _ _ rfl rfl rfl) ?_
  refine DL_c (op_neq (r := false) _ _ rfl rfl (by simp)) ?_
  refine DL_c (op_mv _ (rfl : _ = AV.v (.bool _))) ?_
  refine DL_cy rfl rfl (op_mv _ (rfl : _ = AV.fp _ _)) ?_
  refine DL_cy rfl rfl (op_callH inferInstance (by repeat' (first | exact argsLv_nil | refine argsLv_cons ?_ ?_ | exact Lv.v | exact Lv.sl | exact Lv.fp | exact Lv.nil | refine Lv.agg rfl ?_ | refine Lv.fn rfl ?_ rfl ?_ | exact lv_nil | refine lv_cons ?_ ?_ | exact Lv.z0)) (he2) rfl rfl) ?_
  refine DL_cy rfl rfl (op_mv _ (rfl : _ = AV.sl _ _)) ?_
  refine DL_cy rfl rfl (op_lenS _ inferInstance rfl) ?_
  refine DL_cy rfl rfl (op_neq (r := false) _ _ rfl rfl (by simp)) ?_
  refine DL_c (op_pick _ _ _ rfl (rfl : _ = AV.v (.bool _))) ?_
  refine DL_nil (hK13 _ ?_)
  clear hK13; try clear K13
  refine D_cF rfl rfl ?_
  refine D_skip (hK12 _ ?_)
  clear hK12; try clear K12
  refine D_seq fun K14 hK14 => ?_
  refine D_seq fun K15 hK15 => ?_
  refine D_le (σ' := mkStI 85 [(11, _), (13, _)] [] [] []) (by
    refine Le.mkJ [] [] rfl ?_ ?_ trivial trivial ?_
    · exact ⟨(iF rfl), (iS rfl), trivial⟩
    · exact trivial
    · kernel_rfl) ?_
  refine D_region ?_
  refine DL_c (op_as _ (rfl : _ = AV.v (.int _ _))) ?_
  refine DL_nil (hK15 _ ?_)
  clear hK15; try clear K15
  refine D_block ?_
  refine D_loopL (α := Nat) (fun i => i ≤ L.length) 85 [(11, _), (13, _)] [] (fun i => [(15, .v (.int .i64 (i : Int)))]) (fun i => []) [] [] (fun i => L.length - i) 0 ?_ (by
    refine Le.mkJ [] [] rfl ?_ ?_ trivial trivial ?_
    · exact ⟨(iF rfl), (iS rfl), (lvI (by first | rfl | omega | (simp; done) | (simp; omega) | assumption)), trivial⟩
    · exact trivial
    · kernel_rfl) ?_
  · first | omega | trivial | exact ⟨by omega, by omega⟩
  intro i hi
  refine D_seq fun K16 hK16 => ?_
  refine D_seq fun K17 hK17 => ?_
  refine D_region ?_
  refine DL_c (op_mv _ (rfl : _ = AV.v (.int _ _))) ?_
  refine DL_c (op_mv _ (rfl : _ = AV.sl _ _)) ?_
  refine DL_c (op_lenS _ inferInstance rfl) ?_
  first
    | refine DL_c (op_lss _ _ rfl rfl (by assumption)) ?_
    | refine DL_c (op_lss _ _ rfl rfl rfl) ?_
  refine DL_nil (hK17 _ ?_)
  clear hK17; try clear K17
  refine D_splitC rfl (fun hc66 => ?_) (fun hc66 => ?_)
  · skip
    have hri := hrl i (by omega)
    have hrk := hri.len
    have hsl := islinear_spec k _ hw (L.getD i []).length (nl (L.getD i [])) (by simp) (by omega)
    rw [wlt_clo hE, islin_nl.2 hri] at hsl
    refine D_skip (hK16 _ ?_)
    clear hK16; try clear K16
    refine D_seq fun K18 hK18 => ?_
    refine D_block ?_
    refine D_seq fun K19 hK19 => ?_
    refine D_region ?_
    refine DL_c (op_mv _ (rfl : _ = AV.fp _ _)) ?_
    refine DL_c (op_mv _ (rfl : _ = AV.sl _ _)) ?_
    refine DL_c (op_mv _ (rfl : _ = AV.v (.int _ _))) ?_
    first
      | refine DL_c (op_ixS _ _ inferInstance rfl rfl _ rfl (by omega) (by first | assumption | decide | (simp only [isl_len, bsl_len, psl_len, ws_len, mrows_len, nsl_len, List.length_map, nl_len]; omega) | (simp; done) | (simp; omega) | (simp [isl, bsl]; omega)) (by first | exact Nat.mul_one _ | rfl | omega)) ?_
      | refine DL_c (op_ixS _ _ inferInstance rfl rfl (Int.toNat _) (Int.toNat_of_nonneg (by omega)).symm (by omega) (by first | assumption | decide | (simp only [isl_len, bsl_len, psl_len, ws_len, mrows_len, nsl_len, List.length_map, nl_len]; omega) | (simp; done) | (simp; omega) | (simp [isl, bsl]; omega)) (by first | exact Nat.mul_one _ | rfl | omega)) ?_
    refine DL_c (op_ldF _ inferInstance rfl (by first | rfl | exact isl_get _ _ (by omega) | exact bsl_get _ _ (by omega) | assumption | exact psl_get0 _ _ (by omega) | exact psl_get1 _ _ (by omega) | exact nsl_get _ _ (by omega) | exact arows_get _ _ (by omega)) rfl) ?_
    refine DL_c (op_callH inferInstance (by repeat' (first | exact argsLv_nil | refine argsLv_cons ?_ ?_ | exact Lv.v | exact Lv.sl | exact Lv.fp | exact Lv.nil | refine Lv.agg rfl ?_ | refine Lv.fn rfl ?_ rfl ?_ | exact lv_nil | refine lv_cons ?_ ?_ | exact Lv.z0)) (hsl) rfl rfl) ?_
    refine DL_c (op_not _ rfl rfl) ?_
    refine DL_nil (hK19 _ ?_)
    clear hK19; try clear K19
    refine D_cF rfl rfl ?_
    refine D_skip (hK18 _ ?_)
    clear hK18; try clear K18
    refine D_region ?_
    refine DL_c (op_mv _ (rfl : _ = AV.v (.int _ _))) ?_
    first
      | refine DL_c (op_add _ _ rfl rfl (i64w (by omega))) ?_
      | refine DL_c (op_add _ _ rfl rfl rfl) ?_
    refine DL_c (op_as _ (rfl : _ = AV.v (.int _ _))) ?_
    refine DL_nil ?_
    refine ⟨i + 1, ?_, ?_, ?_⟩
    · first | omega | trivial | exact ⟨by omega, by omega⟩
    · skip
      refine Le.mkJ [] [] rfl ?_ ?_ trivial trivial ?_
      · exact ⟨(iF rfl), (iS rfl), (lvI (by first | rfl | omega | (simp; done) | (simp; omega) | assumption)), trivial⟩
      · exact trivial
      · kernel_rfl
    · omega
  · skip
    refine D_exit ?_
    refine id (hK14 _ ?_)
    clear hK14; try clear K14
    refine D_seq fun K20 hK20 => ?_
    refine D_le (σ' := mkStI 85 [(11, _), (13, _)] [] [] []) (by
      refine Le.mkJ [] [] rfl ?_ ?_ trivial trivial ?_
      · exact ⟨(iF rfl), (iS rfl), trivial⟩
      · exact trivial
      · kernel_rfl) ?_
    refine D_anyL 10 [76, 77, 78, 79, 80, 81, 82, 83, 84, 6] [] (by kernel_rfl) (by kernel_rfl) rfl (nodupO_iff rfl) (rfl : _ = [_, _, _, _, _, _, _, _, _, _]) (rfl : _ = []) ?_
    refine any_c (_, []) (fun τ => op_mv _ (rfl : _ = AV.sl _ _)) ?_
    refine any_n (rfl : _ = [_]) ?_
    refine any_c (_, []) (fun τ => op_ixS _ _ inferInstance rfl rfl 0 rfl (by omega) (by simp; omega) (Nat.mul_one _)) ?_
    refine any_n (rfl : _ = [_, _]) ?_
    refine any_c (_, []) (fun τ => op_ldF _ inferInstance rfl ((arows_get L 0 hLp).trans (by rw [h0, lin_len])) rfl) ?_
    refine any_n (rfl : _ = [_, _, _]) ?_
    refine any_c (_, []) (fun τ => op_mv _ (rfl : _ = AV.fp _ _)) ?_
    refine any_n (rfl : _ = [_, _, _, _]) ?_
    refine any_c (_, []) (fun τ => (op_callH inferInstance (by repeat' (first | exact argsLv_nil | refine argsLv_cons ?_ ?_ | exact Lv.v | exact Lv.sl | exact Lv.fp | exact Lv.nil | refine Lv.agg rfl ?_ | refine Lv.fn rfl ?_ rfl ?_ | exact lv_nil | refine lv_cons ?_ ?_ | exact Lv.z0)) (hli) rfl rfl)) ?_
    refine any_n (rfl : _ = [_, _, _, _, _]) ?_
    refine any_c (_, []) (fun τ => (op_callH inferInstance (by repeat' (first | exact argsLv_nil | refine argsLv_cons ?_ ?_ | exact Lv.v | exact Lv.sl | exact Lv.fp | exact Lv.nil | refine Lv.agg rfl ?_ | refine Lv.fn rfl ?_ rfl ?_ | exact lv_nil | refine lv_cons ?_ ?_ | exact Lv.z0)) (same_true k (nl (lin k (cl E) k)) (by simp) (by omega)) rfl rfl)) ?_
    refine any_n (rfl : _ = [_, _, _, _, _, _]) ?_
    refine any_c (_, []) (fun τ => op_mv _ (rfl : _ = AV.v (.bool _))) ?_
    refine any_n (rfl : _ = [_, _, _, _, _, _, _]) ?_
    refine any_cy (_, []) rfl (fun τ => rfl) (fun τ => (op_callH inferInstance (by repeat' (first | exact argsLv_nil | refine argsLv_cons ?_ ?_ | exact Lv.v | exact Lv.sl | exact Lv.fp | exact Lv.nil | refine Lv.agg rfl ?_ | refine Lv.fn rfl ?_ rfl ?_ | exact lv_nil | refine lv_cons ?_ ?_ | exact Lv.z0)) (lives_spec) rfl rfl)) ?_
    refine any_n (rfl : _ = [_, _, _, _, _, _, _, _]) ?_
    refine any_c (_, []) (fun τ => op_pick _ _ _ rfl (rfl : _ = AV.v (.bool _))) ?_
    refine any_n (rfl : _ = [_, _, _, _, _, _, _, _, _]) ?_
    refine any_c (_, []) (fun τ => op_as _ (rfl : _ = AV.v (.bool _))) ?_
    refine any_n (rfl : _ = [_, _, _, _, _, _, _, _, _, _]) ?_
    refine any_end ⟨rfl, ?_⟩
    refine DL_nil (hK20 _ ?_)
    clear hK20; try clear K20
    refine D_ret ?_
    refine ret1 (.inr rfl) rfl (.tmp (rfl : _ = AV.v (.bool _))) (Le.out [] [] (lvB ?_) rfl rfl rfl trivial trivial)
    rfl
theorem extl_law (n : Int) (hn : -9223372036854775808 ≤ n ∧ n ≤ 9223372036854775807) (m : Nat) (l : List Int) (hm : l.length = m) (h1 : m ≤ 4611686018427387904) (hr : Rng l) (most : Int) (ha : -9223372036854775808 ≤ most ∧ most ≤ 9223372036854775807) :
    Spec Try.prog 10 (inSt [.v (.int .i64 n), .sl m (isl l), .v (.int .i64 most)] []) (outSt (.v (.bool true)) []) := by
  obtain ⟨k, hk⟩ := Int.eq_ofNat_of_zero_le (around_lo n 7 (by omega))
  by_cases hC : Cyc k (pairs k l)
  · exact extl_cyc n hn.1 hn.2 k hk m l hm h1 hr hC most
  · exact extl_ok n hn.1 hn.2 k hk m l hm h1 hr hC most ha.1 ha.2
end Go.Proofs.Ytkbkmngbenohkaa
