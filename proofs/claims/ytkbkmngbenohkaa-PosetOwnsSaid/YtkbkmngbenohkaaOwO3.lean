/- The law PosetOwns by the machine. -/
import Derived.Test.YtkbkmngbenohkaaOwA19
import Derived.Test.YtkbkmngbenohkaaOwO1
import Derived.Test.YtkbkmngbenohkaaOwO2
set_option linter.unusedSimpArgs false
set_option linter.unusedVariables false
namespace Go.Proofs.Ytkbkmngbenohkaa
open Go.RowKit

/-- The first k elements are made c. -/
def fil {α : Type} (c : α) (l : List α) (k : Nat) : List α := List.replicate k c ++ l.drop k
theorem fil_zero {α : Type} (c : α) (l : List α) : fil c l 0 = l := rfl
theorem fil_len {α : Type} (c : α) (l : List α) (k : Nat) (h : k ≤ l.length) : (fil c l k).length = l.length := by simp [fil]; omega
theorem fil_succ {α : Type} {c : α} {l : List α} {k : Nat} (h : k < l.length) : (fil c l k).set k c = fil c l (k + 1) := by
  unfold fil
  rw [List.set_append_right _ _ (by simp), List.length_replicate, Nat.sub_self, List.drop_eq_getElem_cons h, List.set_cons_zero, List.replicate_succ', List.append_assoc]
  rfl
theorem owns_cyc (n : Int) (m : Nat) (l : List Int) (k : Nat) (E : Prs) (g : Gen n m l k E) (hC : Cyc k E) :
    Spec Try.prog 7 (inSt [.v (.int .i64 n), .sl m (isl l)] []) (outSt (.v (.bool true)) []) := by
  refine Spec.ofN Try.func7 rfl Try.ntmps7 rfl ?_
  refine D_seq fun K1 hK1 => ?_
  refine D_region ?_
  refine DL_c (op_as _ (rfl : _ = AV.v (.bool _))) ?_
  refine DL_nil (hK1 _ ?_)
  clear hK1; try clear K1
  refine D_seq fun K2 hK2 => ?_
  refine D_seq fun K3 hK3 => ?_
  refine D_region ?_
  refine DL_c (op_mv _ (rfl : _ = AV.v (.int _ _))) ?_
  refine DL_c (op_mv _ (rfl : _ = AV.sl _ _)) ?_
  refine DL_c (op_callH inferInstance (by repeat' (first | exact argsLv_nil | refine argsLv_cons ?_ ?_ | exact Lv.v | exact lvI (by omega) | exact Lv.sl | exact Lv.fp | exact Lv.nil | refine Lv.agg rfl ?_ | refine Lv.fn rfl ?_ rfl ?_ | exact lv_nil | refine lv_cons ?_ ?_ | exact Lv.z0)) (g.yes hC) rfl rfl) ?_
  refine DL_nil (hK3 _ ?_)
  clear hK3; try clear K3
  refine D_cT rfl rfl ?_
  refine D_seq fun K4 hK4 => ?_
  refine D_region ?_
  refine DL_c (op_callH inferInstance (by repeat' (first | exact argsLv_nil | refine argsLv_cons ?_ ?_ | exact Lv.v | exact lvI (by omega) | exact Lv.sl | exact Lv.fp | exact Lv.nil | refine Lv.agg rfl ?_ | refine Lv.fn rfl ?_ rfl ?_ | exact lv_nil | refine lv_cons ?_ ?_ | exact Lv.z0)) (lives_spec) rfl rfl) ?_
  refine DL_c (op_as _ (rfl : _ = AV.v (.bool _))) ?_
  refine DL_nil (hK4 _ ?_)
  clear hK4; try clear K4
  refine D_ret ?_
  refine ret1 (.inr rfl) rfl (.tmp (rfl : _ = AV.v (.bool _))) (Le.out [] [] (lvB ?_) rfl rfl rfl trivial trivial)
  rfl
set_option maxHeartbeats 1000000 in
theorem owns_ok (n : Int) (m : Nat) (l : List Int) (k : Nat) (E : Prs) (g : Gen n m l k E) (hC : ¬ Cyc k E) :
    Spec Try.prog 7 (inSt [.v (.int .i64 n), .sl m (isl l)] []) (outSt (.v (.bool true)) []) := by
  have hk8 := g.kle
  have hE := g.inE
  have hEl := g.el
  have hp := pairs_own (k : Int) (by omega) (by omega) m l g.len g.le g.rng
  rw [g.prs] at hp
  have hco := covers_own k _ g.w
  have hlo := linear_own k _ g.w (by rw [wlt_clo g.inE]; exact spo_cl hC)
  rw [wlt_clo hE] at hco hlo
  have hnk := new_keep k (by omega) _ E rfl (by omega)
  have hrk := rnew_keep k (by omega) _ E rfl (by omega)
  rw [newR_ok hE hC] at hnk
  rw [rnewR_ok hE hC] at hrk
  have har := around_spec n 8 (by omega) (by omega) g.lo g.hi
  rw [g.ar] at har
  have hcs := g.covers
  have hrc := g.rcovers
  have hln := g.linear hC
  have hrl := g.rlinear hC
  have hSl := covA_small k (cl E) k (by omega) (by omega)
  obtain ⟨S, hS⟩ : ∃ S, S = covA k (cl E) k := ⟨_, rfl⟩
  rw [← hS] at hcs hrc hSl hco
  have hLl : (nl (lin k (cl E) k)).length = k := by simp
  have hLn : isl (nl (lin k (cl E) k)) = nsl (lin k (cl E) k) := rfl
  rw [← hLn] at hlo
  obtain ⟨Z, hZ⟩ : ∃ Z, Z = nl (lin k (cl E) k) := ⟨_, rfl⟩
  rw [← hZ] at hln hrl hlo hLl
  refine Spec.ofN Try.func7 rfl Try.ntmps7 rfl ?_
  refine D_seq fun K1 hK1 => ?_
  refine D_region ?_
  refine DL_c (op_as _ (rfl : _ = AV.v (.bool _))) ?_
  refine DL_nil (hK1 _ ?_)
  clear hK1; try clear K1
  refine D_seq fun K2 hK2 => ?_
  refine D_seq fun K3 hK3 => ?_
  refine D_region ?_
  refine DL_c (op_mv _ (rfl : _ = AV.v (.int _ _))) ?_
  refine DL_c (op_mv _ (rfl : _ = AV.sl _ _)) ?_
  refine DL_c (op_callH inferInstance (by repeat' (first | exact argsLv_nil | refine argsLv_cons ?_ ?_ | exact Lv.v | exact lvI (by omega) | exact Lv.sl | exact Lv.fp | exact Lv.nil | refine Lv.agg rfl ?_ | refine Lv.fn rfl ?_ rfl ?_ | exact lv_nil | refine lv_cons ?_ ?_ | exact Lv.z0)) (g.no hC) rfl rfl) ?_
  refine DL_nil (hK3 _ ?_)
  clear hK3; try clear K3
  refine D_cF rfl rfl ?_
  refine D_skip (hK2 _ ?_)
  clear hK2; try clear K2
  refine D_seq fun K4 hK4 => ?_
  refine D_region ?_
  refine DL_c (op_mv _ (rfl : _ = AV.v (.int _ _))) ?_
  refine DL_c (op_callH inferInstance (by repeat' (first | exact argsLv_nil | refine argsLv_cons ?_ ?_ | exact Lv.v | exact lvI (by omega) | exact Lv.sl | exact Lv.fp | exact Lv.nil | refine Lv.agg rfl ?_ | refine Lv.fn rfl ?_ rfl ?_ | exact lv_nil | refine lv_cons ?_ ?_ | exact Lv.z0)) (har) rfl rfl) ?_
  refine DL_c (op_as _ (rfl : _ = AV.v (.int _ _))) ?_
  refine DL_nil (hK4 _ ?_)
  clear hK4; try clear K4
  refine D_seq fun K5 hK5 => ?_
  refine D_region ?_
  refine DL_c (op_mv _ (rfl : _ = AV.v (.int _ _))) ?_
  refine DL_c (op_mv _ (rfl : _ = AV.sl _ _)) ?_
  refine DL_c (op_callR inferInstance [((0, 8), (50, 0))] ?_ (hp.toI) trivial ⟨rfl, trivial⟩ (by kernel_rfl)) ?_
  · repeat' (first | exact argsR_nil | refine argsR_cons ?_ ?_ | exact Lv.v | exact lvI (by assumption) | exact lvI (by omega) | exact Lv.sl | exact Lv.fp | exact Lv.nil | exact lvRr rfl rfl | exact lvPr rfl | refine Lv.agg rfl ?_ | refine Lv.fn rfl ?_ rfl ?_ | refine Lv.ifc ?_ | exact lv_nil | refine lv_cons ?_ ?_)
  refine DL_c (op_as _ (rfl : _ = AV.ref _ _ _)) ?_
  refine DL_nil (hK5 _ ?_)
  clear hK5; try clear K5
  refine D_seq fun K6 hK6 => ?_
  refine D_region ?_
  refine DL_c (op_mv _ (rfl : _ = AV.v (.int _ _))) ?_
  refine DL_c (op_mv _ (rfl : _ = AV.ref _ _ _)) ?_
  refine DL_c (op_callR inferInstance [((0, 9), (50, 0))] ?_ (hnk) ⟨⟨rfl, ⟨_, rfl, .rowE rfl⟩, rfl⟩, trivial⟩ ⟨rfl, trivial⟩ (by kernel_rfl)) ?_
  · repeat' (first | exact argsR_nil | refine argsR_cons ?_ ?_ | exact Lv.v | exact lvI (by assumption) | exact lvI (by omega) | exact Lv.sl | exact Lv.fp | exact Lv.nil | exact lvRr rfl rfl | exact lvPr rfl | refine Lv.agg rfl ?_ | refine Lv.fn rfl ?_ rfl ?_ | refine Lv.ifc ?_ | exact lv_nil | refine lv_cons ?_ ?_)
  refine DL_c (op_mv _ (rfl : _ = AV.tup _)) ?_
  first
    | refine DL_c (op_ext _ rfl (rfl : _ = some (AV.ptr _ _))) ?_
    | refine DL_c (op_ext _ rfl (rfl : _ = some (AV.fp _ _))) ?_
    | refine DL_c (op_ext _ rfl (rfl : _ = some (AV.v (.pointer _)))) ?_
  refine DL_c (op_ext _ rfl (rfl : _ = some (AV.v (.int _ _)))) ?_
  refine DL_c (op_as _ (rfl : _ = AV.fp _ _)) ?_
  refine DL_c (op_as _ (rfl : _ = AV.v (.int _ _))) ?_
  refine DL_nil (hK6 _ ?_)
  clear hK6; try clear K6
  refine D_seq fun K7 hK7 => ?_
  refine D_le (σ' := mkStI 95 [(5, _), (6, _), (7, _), (8, _)] [((50, 0), _)] [] []) (by
    refine Le.mkJ [] [] rfl ?_ ?_ trivial trivial ?_
    · exact ⟨(iV rfl), (iR rfl), (iF rfl), (iV rfl), trivial⟩
    · exact ⟨(obE rfl rfl rfl), trivial⟩
    · kernel_rfl) ?_
  refine D_region ?_
  refine DL_c (op_mv _ (rfl : _ = AV.v (.int _ _))) ?_
  refine DL_c (op_mv _ (rfl : _ = AV.ref _ _ _)) ?_
  refine DL_c (op_callR inferInstance [((0, 9), (50, 0))] ?_ (hrk) ⟨⟨rfl, ⟨_, rfl, .rowE rfl⟩, rfl⟩, trivial⟩ ⟨rfl, trivial⟩ (by kernel_rfl)) ?_
  · repeat' (first | exact argsR_nil | refine argsR_cons ?_ ?_ | exact Lv.v | exact lvI (by assumption) | exact lvI (by omega) | exact Lv.sl | exact Lv.fp | exact Lv.nil | exact lvRr rfl rfl | exact lvPr rfl | refine Lv.agg rfl ?_ | refine Lv.fn rfl ?_ rfl ?_ | refine Lv.ifc ?_ | exact lv_nil | refine lv_cons ?_ ?_)
  refine DL_c (op_mv _ (rfl : _ = AV.tup _)) ?_
  first
    | refine DL_c (op_ext _ rfl (rfl : _ = some (AV.agg _))) ?_
    | refine DL_c (op_ext _ rfl (rfl : _ = some (AV.v (.agg _)))) ?_
  refine DL_c (op_ext _ rfl (rfl : _ = some (AV.v (.int _ _)))) ?_
  refine DL_c (op_alloc (9, 0) inferInstance rfl rfl) ?_
  refine DL_c (op_stB _ _ inferInstance rfl rfl rfl rfl (Nat.le_of_ble_eq_true rfl) rfl) ?_
  refine DL_c (op_as _ (rfl : _ = AV.v (.int _ _))) ?_
  refine DL_nil (hK7 _ ?_)
  clear hK7; try clear K7
  refine D_seq fun K8 hK8 => ?_
  refine D_seq fun K9 hK9 => ?_
  refine D_region ?_
  refine DL_c (op_mv _ (rfl : _ = AV.fp _ _)) ?_
  refine DL_c (op_eqN _ _ (by kernel_rfl) (.inr ⟨_, _, rfl⟩) rfl) ?_
  refine DL_c (op_mv _ (rfl : _ = AV.v (.bool _))) ?_
  refine DL_cy rfl rfl (op_mv _ (rfl : _ = AV.v (.int _ _))) ?_
  refine DL_cy rfl rfl (op_neq (r := false) _ _ rfl rfl rfl) ?_
  refine DL_c (op_pick _ _ _ rfl (rfl : _ = AV.v (.bool _))) ?_
  refine DL_c (op_mv _ (rfl : _ = AV.v (.bool _))) ?_
  refine DL_cy rfl rfl (op_mv _ (rfl : _ = AV.v (.int _ _))) ?_
  refine DL_cy rfl rfl (op_neq (r := false) _ _ rfl rfl rfl) ?_
  refine DL_c (op_pick _ _ _ rfl (rfl : _ = AV.v (.bool _))) ?_
  refine DL_nil (hK9 _ ?_)
  clear hK9; try clear K9
  refine D_cF rfl rfl ?_
  refine D_skip (hK8 _ ?_)
  clear hK8; try clear K8
  refine D_seq fun K10 hK10 => ?_
  refine D_seq fun K11 hK11 => ?_
  refine D_le (σ' := mkStI 95 [(6, _), (7, _), (9, _)] [((50, 0), _), ((9, 0), _)] [] []) (by
    refine Le.mkJ [] [] rfl ?_ ?_ trivial trivial ?_
    · exact ⟨(iR rfl), (iF rfl), (iP rfl), trivial⟩
    · exact ⟨(obE rfl rfl rfl), (obE rfl rfl rfl), trivial⟩
    · kernel_rfl) ?_
  refine D_region ?_
  refine DL_c (op_as _ (rfl : _ = AV.v (.int _ _))) ?_
  refine DL_nil (hK11 _ ?_)
  clear hK11; try clear K11
  refine D_block ?_
  refine D_loopL (α := Nat) (fun i => i ≤ E.length) 95 [(6, _), (7, _), (9, _)] [((9, 0), _)] (fun i => [(11, .v (.int .i64 (i : Int)))]) (fun i => [((50, 0), .row 38 2 (psl (fil (0, 0) E i)))]) [] [] (fun i => E.length - i) 0 ?_ (by
    refine Le.mkJ [] [] rfl ?_ ?_ trivial trivial ?_
    · exact ⟨(iR rfl), (iF rfl), (iP rfl), (lvI (by first | rfl | omega | (simp; done) | (simp; omega) | assumption)), trivial⟩
    · exact ⟨(obE rfl rfl rfl), (obR rfl rfl rfl (by first | rfl | omega | (simp; done) | (simp; omega) | assumption)), trivial⟩
    · kernel_rfl) ?_
  · first | omega | trivial | exact ⟨by omega, by omega⟩
  intro i hi
  have hfl := fil_len (0, 0) E i (by omega)
  refine D_seq fun K12 hK12 => ?_
  refine D_seq fun K13 hK13 => ?_
  refine D_region ?_
  refine DL_c (op_mv _ (rfl : _ = AV.v (.int _ _))) ?_
  refine DL_c (op_mv _ (rfl : _ = AV.ref _ _ _)) ?_
  first
    | refine DL_c (op_lenR _ inferInstance rfl rfl) ?_
    | refine DL_c (op_lenB _ inferInstance rfl rfl) ?_
  first
    | refine DL_c (op_lss _ _ rfl rfl (by assumption)) ?_
    | refine DL_c (op_lss _ _ rfl rfl rfl) ?_
  refine DL_nil (hK13 _ ?_)
  clear hK13; try clear K13
  refine D_splitC rfl (fun hc50 => ?_) (fun hc50 => ?_)
  · skip
    refine D_skip (hK12 _ ?_)
    clear hK12; try clear K12
    refine D_seq fun K14 hK14 => ?_
    refine D_block ?_
    refine D_region ?_
    refine DL_c (op_mv _ (rfl : _ = AV.ref _ _ _)) ?_
    refine DL_c (op_mv _ (rfl : _ = AV.v (.int _ _))) ?_
    refine DL_c (op_build _ inferInstance rfl (by exact (rfl : _ = some [_, _]))) ?_
    first
      | refine DL_c (op_ixR _ _ inferInstance rfl rfl rfl _ rfl (by omega) (by first | exact (Nat.zero_add _).trans (Nat.mul_one _) | exact Nat.zero_add _ | rfl | omega)) ?_
      | refine DL_c (op_ixR _ _ inferInstance rfl rfl rfl (Int.toNat _) (Int.toNat_of_nonneg (by omega)).symm (by omega) (by first | exact (Nat.zero_add _).trans (Nat.mul_one _) | exact Nat.zero_add _ | rfl | omega)) ?_
    first
      | refine DL_c (op_stB _ _ inferInstance rfl rfl rfl rfl (Nat.le_of_ble_eq_true rfl) rfl) ?_
      | refine DL_c (op_stR _ _ inferInstance rfl rfl rfl rfl rfl (by first | exact Nat.le_of_ble_eq_true rfl | (simp only [isl_len, bsl_len, psl_len, ws_len, mrows_len, nsl_len, List.length_map, nl_len, fil_len, List.length_cons, List.length_nil]; omega) | (simp; done) | (simp; omega)) rfl) ?_
    refine DL_nil (hK14 _ ?_)
    clear hK14; try clear K14
    refine D_region ?_
    refine DL_c (op_mv _ (rfl : _ = AV.v (.int _ _))) ?_
    first
      | refine DL_c (op_add _ _ rfl rfl (i64w (by omega))) ?_
      | refine DL_c (op_add _ _ rfl rfl rfl) ?_
    refine DL_c (op_as _ (rfl : _ = AV.v (.int _ _))) ?_
    refine DL_nil ?_
    refine ⟨i + 1, ?_, ?_, ?_⟩
    · first | omega | trivial | exact ⟨by omega, by omega⟩
    · skip
      refine Le.mkJ [] [] rfl ?_ ?_ trivial trivial ?_
      · exact ⟨(iR rfl), (iF rfl), (iP rfl), (lvI (by first | rfl | omega | (simp; done) | (simp; omega) | assumption)), trivial⟩
      · exact ⟨(obE rfl rfl rfl), (obR rfl rfl rfl (by exact ((psl_put (fil (0, 0) E i) i (0, 0) (by omega)).trans (congrArg psl (fil_succ (by omega)))).symm)), trivial⟩
      · kernel_rfl
    · omega
  · skip
    refine D_exit ?_
    refine id (hK10 _ ?_)
    clear hK10; try clear K10
    refine D_seq fun K15 hK15 => ?_
    refine D_region ?_
    refine DL_c (op_mv _ (rfl : _ = AV.fp _ _)) ?_
    refine DL_c (op_callR inferInstance [((0, 8), (51, 0))] ?_ (hco.toI) trivial ⟨rfl, trivial⟩ (by kernel_rfl)) ?_
    · repeat' (first | exact argsR_nil | refine argsR_cons ?_ ?_ | exact Lv.v | exact lvI (by assumption) | exact lvI (by omega) | exact Lv.sl | exact Lv.fp | exact Lv.nil | exact lvRr rfl rfl | exact lvPr rfl | refine Lv.agg rfl ?_ | refine Lv.fn rfl ?_ rfl ?_ | refine Lv.ifc ?_ | exact lv_nil | refine lv_cons ?_ ?_)
    refine DL_c (op_as _ (rfl : _ = AV.ref _ _ _)) ?_
    refine DL_nil (hK15 _ ?_)
    clear hK15; try clear K15
    refine D_seq fun K16 hK16 => ?_
    refine D_seq fun K17 hK17 => ?_
    refine D_region ?_
    refine DL_c (op_as _ (rfl : _ = AV.v (.int _ _))) ?_
    refine DL_nil (hK17 _ ?_)
    clear hK17; try clear K17
    refine D_block ?_
    refine D_loopL (α := Nat) (fun i => i ≤ S.length) 95 [(7, _), (9, _), (12, _)] [((9, 0), _)] (fun i => [(13, .v (.int .i64 (i : Int)))]) (fun i => [((51, 0), .row 38 2 (psl (fil (-1, -1) S i)))]) [] [] (fun i => S.length - i) 0 ?_ (by
      refine Le.mkJ [] [] rfl ?_ ?_ trivial trivial ?_
      · exact ⟨(iF rfl), (iP rfl), (iR rfl), (lvI (by first | rfl | omega | (simp; done) | (simp; omega) | assumption)), trivial⟩
      · exact ⟨(obE rfl rfl rfl), (obR rfl rfl rfl (by first | rfl | omega | (simp; done) | (simp; omega) | assumption)), trivial⟩
      · kernel_rfl) ?_
    · first | omega | trivial | exact ⟨by omega, by omega⟩
    intro i hi
    have hfl := fil_len (-1, -1) S i (by omega)
    refine D_seq fun K18 hK18 => ?_
    refine D_seq fun K19 hK19 => ?_
    refine D_region ?_
    refine DL_c (op_mv _ (rfl : _ = AV.v (.int _ _))) ?_
    refine DL_c (op_mv _ (rfl : _ = AV.ref _ _ _)) ?_
    first
      | refine DL_c (op_lenR _ inferInstance rfl rfl) ?_
      | refine DL_c (op_lenB _ inferInstance rfl rfl) ?_
    first
      | refine DL_c (op_lss _ _ rfl rfl (by assumption)) ?_
      | refine DL_c (op_lss _ _ rfl rfl rfl) ?_
    refine DL_nil (hK19 _ ?_)
    clear hK19; try clear K19
    refine D_splitC rfl (fun hc62 => ?_) (fun hc62 => ?_)
    · skip
      refine D_skip (hK18 _ ?_)
      clear hK18; try clear K18
      refine D_seq fun K20 hK20 => ?_
      refine D_block ?_
      refine D_region ?_
      refine DL_c (op_mv _ (rfl : _ = AV.ref _ _ _)) ?_
      refine DL_c (op_mv _ (rfl : _ = AV.v (.int _ _))) ?_
      refine DL_c (op_build _ inferInstance rfl (by exact (rfl : _ = some [_, _]))) ?_
      first
        | refine DL_c (op_ixR _ _ inferInstance rfl rfl rfl _ rfl (by omega) (by first | exact (Nat.zero_add _).trans (Nat.mul_one _) | exact Nat.zero_add _ | rfl | omega)) ?_
        | refine DL_c (op_ixR _ _ inferInstance rfl rfl rfl (Int.toNat _) (Int.toNat_of_nonneg (by omega)).symm (by omega) (by first | exact (Nat.zero_add _).trans (Nat.mul_one _) | exact Nat.zero_add _ | rfl | omega)) ?_
      first
        | refine DL_c (op_stB _ _ inferInstance rfl rfl rfl rfl (Nat.le_of_ble_eq_true rfl) rfl) ?_
        | refine DL_c (op_stR _ _ inferInstance rfl rfl rfl rfl rfl (by first | exact Nat.le_of_ble_eq_true rfl | (simp only [isl_len, bsl_len, psl_len, ws_len, mrows_len, nsl_len, List.length_map, nl_len, fil_len, List.length_cons, List.length_nil]; omega) | (simp; done) | (simp; omega)) rfl) ?_
      refine DL_nil (hK20 _ ?_)
      clear hK20; try clear K20
      refine D_region ?_
      refine DL_c (op_mv _ (rfl : _ = AV.v (.int _ _))) ?_
      first
        | refine DL_c (op_add _ _ rfl rfl (i64w (by omega))) ?_
        | refine DL_c (op_add _ _ rfl rfl rfl) ?_
      refine DL_c (op_as _ (rfl : _ = AV.v (.int _ _))) ?_
      refine DL_nil ?_
      refine ⟨i + 1, ?_, ?_, ?_⟩
      · first | omega | trivial | exact ⟨by omega, by omega⟩
      · skip
        refine Le.mkJ [] [] rfl ?_ ?_ trivial trivial ?_
        · exact ⟨(iF rfl), (iP rfl), (iR rfl), (lvI (by first | rfl | omega | (simp; done) | (simp; omega) | assumption)), trivial⟩
        · exact ⟨(obE rfl rfl rfl), (obR rfl rfl rfl (by exact ((psl_put (fil (-1, -1) S i) i (-1, -1) (by omega)).trans (congrArg psl (fil_succ (by omega)))).symm)), trivial⟩
        · kernel_rfl
      · omega
    · skip
      refine D_exit ?_
      refine id (hK16 _ ?_)
      clear hK16; try clear K16
      refine D_seq fun K21 hK21 => ?_
      refine D_region ?_
      refine DL_c (op_mv _ (rfl : _ = AV.fp _ _)) ?_
      refine DL_c (op_callR inferInstance [((0, 8), (52, 0))] ?_ (hlo.toI) trivial ⟨rfl, trivial⟩ (by kernel_rfl)) ?_
      · repeat' (first | exact argsR_nil | refine argsR_cons ?_ ?_ | exact Lv.v | exact lvI (by assumption) | exact lvI (by omega) | exact Lv.sl | exact Lv.fp | exact Lv.nil | exact lvRr rfl rfl | exact lvPr rfl | refine Lv.agg rfl ?_ | refine Lv.fn rfl ?_ rfl ?_ | refine Lv.ifc ?_ | exact lv_nil | refine lv_cons ?_ ?_)
      refine DL_c (op_as _ (rfl : _ = AV.ref _ _ _)) ?_
      refine DL_nil (hK21 _ ?_)
      clear hK21; try clear K21
      refine D_seq fun K22 hK22 => ?_
      refine D_seq fun K23 hK23 => ?_
      refine D_region ?_
      refine DL_c (op_as _ (rfl : _ = AV.v (.int _ _))) ?_
      refine DL_nil (hK23 _ ?_)
      clear hK23; try clear K23
      refine D_block ?_
      refine D_loopL (α := Nat) (fun i => i ≤ k) 95 [(7, _), (9, _), (14, _)] [((9, 0), _)] (fun i => [(15, .v (.int .i64 (i : Int)))]) (fun i => [((52, 0), .row 3 1 (isl (fil (-1) Z i)))]) [] [] (fun i => k - i) 0 ?_ (by
        refine Le.mkJ [] [] rfl ?_ ?_ trivial trivial ?_
        · exact ⟨(iF rfl), (iP rfl), (iR rfl), (lvI (by first | rfl | omega | (simp; done) | (simp; omega) | assumption)), trivial⟩
        · exact ⟨(obE rfl rfl rfl), (obR rfl rfl rfl (by first | rfl | omega | (simp; done) | (simp; omega) | assumption)), trivial⟩
        · kernel_rfl) ?_
      · first | omega | trivial | exact ⟨by omega, by omega⟩
      intro i hi
      have hfl := fil_len (-1) Z i (by omega)
      refine D_seq fun K24 hK24 => ?_
      refine D_seq fun K25 hK25 => ?_
      refine D_region ?_
      refine DL_c (op_mv _ (rfl : _ = AV.v (.int _ _))) ?_
      refine DL_c (op_mv _ (rfl : _ = AV.ref _ _ _)) ?_
      first
        | refine DL_c (op_lenR _ inferInstance rfl rfl) ?_
        | refine DL_c (op_lenB _ inferInstance rfl rfl) ?_
      first
        | refine DL_c (op_lss _ _ rfl rfl (by assumption)) ?_
        | refine DL_c (op_lss _ _ rfl rfl rfl) ?_
      refine DL_nil (hK25 _ ?_)
      clear hK25; try clear K25
      refine D_splitC rfl (fun hc74 => ?_) (fun hc74 => ?_)
      · skip
        refine D_skip (hK24 _ ?_)
        clear hK24; try clear K24
        refine D_seq fun K26 hK26 => ?_
        refine D_block ?_
        refine D_region ?_
        refine DL_c (op_mv _ (rfl : _ = AV.ref _ _ _)) ?_
        refine DL_c (op_mv _ (rfl : _ = AV.v (.int _ _))) ?_
        first
          | refine DL_c (op_ixR _ _ inferInstance rfl rfl rfl _ rfl (by omega) (by first | exact (Nat.zero_add _).trans (Nat.mul_one _) | exact Nat.zero_add _ | rfl | omega)) ?_
          | refine DL_c (op_ixR _ _ inferInstance rfl rfl rfl (Int.toNat _) (Int.toNat_of_nonneg (by omega)).symm (by omega) (by first | exact (Nat.zero_add _).trans (Nat.mul_one _) | exact Nat.zero_add _ | rfl | omega)) ?_
        first
          | refine DL_c (op_stB _ _ inferInstance rfl rfl rfl rfl (Nat.le_of_ble_eq_true rfl) rfl) ?_
          | refine DL_c (op_stR _ _ inferInstance rfl rfl rfl rfl rfl (by first | exact Nat.le_of_ble_eq_true rfl | (simp only [isl_len, bsl_len, psl_len, ws_len, mrows_len, nsl_len, List.length_map, nl_len, fil_len, List.length_cons, List.length_nil]; omega) | (simp; done) | (simp; omega)) rfl) ?_
        refine DL_nil (hK26 _ ?_)
        clear hK26; try clear K26
        refine D_region ?_
        refine DL_c (op_mv _ (rfl : _ = AV.v (.int _ _))) ?_
        first
          | refine DL_c (op_add _ _ rfl rfl (i64w (by omega))) ?_
          | refine DL_c (op_add _ _ rfl rfl rfl) ?_
        refine DL_c (op_as _ (rfl : _ = AV.v (.int _ _))) ?_
        refine DL_nil ?_
        refine ⟨i + 1, ?_, ?_, ?_⟩
        · first | omega | trivial | exact ⟨by omega, by omega⟩
        · skip
          refine Le.mkJ [] [] rfl ?_ ?_ trivial trivial ?_
          · exact ⟨(iF rfl), (iP rfl), (iR rfl), (lvI (by first | rfl | omega | (simp; done) | (simp; omega) | assumption)), trivial⟩
          · exact ⟨(obE rfl rfl rfl), (obR rfl rfl rfl (by rw [isl_put _ _ _ (by omega), fil_succ (by omega)])), trivial⟩
          · kernel_rfl
        · omega
      · skip
        refine D_exit ?_
        refine id (hK22 _ ?_)
        clear hK22; try clear K22
        refine D_seq fun K27 hK27 => ?_
        refine D_le (σ' := mkStI 95 [(7, _), (9, _)] [((9, 0), _)] [] []) (by
          refine Le.mkJ [] [] rfl ?_ ?_ trivial trivial ?_
          · exact ⟨(iF rfl), (iP rfl), trivial⟩
          · exact ⟨(obE rfl rfl rfl), trivial⟩
          · kernel_rfl) ?_
        refine D_anyL 16 [80, 81, 82, 83, 84, 85, 86, 87, 88, 89, 90, 91, 92, 93, 94, 4] [] (by kernel_rfl) (by kernel_rfl) rfl (nodupO_iff rfl) (rfl : _ = [_, _, _, _, _, _, _, _, _, _, _, _, _, _, _, _]) (rfl : _ = []) ?_
        refine any_c (_, []) (fun τ => op_mv _ (rfl : _ = AV.fp _ _)) ?_
        refine any_n (rfl : _ = [_]) ?_
        refine any_c (_, []) (fun τ => (op_callH inferInstance (by repeat' (first | exact argsLv_nil | refine argsLv_cons ?_ ?_ | exact Lv.v | exact lvI (by omega) | exact Lv.sl | exact Lv.fp | exact Lv.nil | refine Lv.agg rfl ?_ | refine Lv.fn rfl ?_ rfl ?_ | exact lv_nil | refine lv_cons ?_ ?_ | exact Lv.z0)) (hcs) rfl rfl)) ?_
        refine any_n (rfl : _ = [_, _]) ?_
        first
          | refine any_c (_, []) (fun τ => op_ldBA _ inferInstance rfl rfl rfl rfl) ?_
          | refine any_c (_, []) (fun τ => op_ldRA _ inferInstance rfl rfl (by first | rfl | assumption | exact psl_geta _ _ (by omega)) rfl) ?_
          | refine any_c (_, []) (fun τ => op_ldFA _ inferInstance rfl (by first | rfl | assumption | exact psl_geta _ _ (by omega)) rfl) ?_
        refine any_n (rfl : _ = [_, _, _]) ?_
        refine any_c (_, []) (fun τ => (op_callH inferInstance (by repeat' (first | exact argsLv_nil | refine argsLv_cons ?_ ?_ | exact Lv.v | exact lvI (by omega) | exact Lv.sl | exact Lv.fp | exact Lv.nil | refine Lv.agg rfl ?_ | refine Lv.fn rfl ?_ rfl ?_ | exact lv_nil | refine lv_cons ?_ ?_ | exact Lv.z0)) (hrc) rfl rfl)) ?_
        refine any_n (rfl : _ = [_, _, _, _]) ?_
        refine any_c (_, []) (fun τ => (op_callH inferInstance (by repeat' (first | exact argsLv_nil | refine argsLv_cons ?_ ?_ | exact Lv.v | exact lvI (by omega) | exact Lv.sl | exact Lv.fp | exact Lv.nil | refine Lv.agg rfl ?_ | refine Lv.fn rfl ?_ rfl ?_ | exact lv_nil | refine lv_cons ?_ ?_ | exact Lv.z0)) (samepairs_true _ S rfl (by omega)) rfl rfl)) ?_
        refine any_n (rfl : _ = [_, _, _, _, _]) ?_
        refine any_c (_, []) (fun τ => op_mv _ (rfl : _ = AV.v (.bool _))) ?_
        refine any_n (rfl : _ = [_, _, _, _, _, _]) ?_
        refine any_cy (_, []) rfl (fun τ => rfl) (fun τ => op_mv _ (rfl : _ = AV.fp _ _)) ?_
        refine any_n (rfl : _ = [_, _, _, _, _, _, _]) ?_
        refine any_cy (_, []) rfl (fun τ => rfl) (fun τ => (op_callH inferInstance (by repeat' (first | exact argsLv_nil | refine argsLv_cons ?_ ?_ | exact Lv.v | exact lvI (by omega) | exact Lv.sl | exact Lv.fp | exact Lv.nil | refine Lv.agg rfl ?_ | refine Lv.fn rfl ?_ rfl ?_ | exact lv_nil | refine lv_cons ?_ ?_ | exact Lv.z0)) (hln) rfl rfl)) ?_
        refine any_n (rfl : _ = [_, _, _, _, _, _, _, _]) ?_
        first
          | refine any_cy (_, []) rfl (fun τ => rfl) (fun τ => op_ldBA _ inferInstance rfl rfl rfl rfl) ?_
          | refine any_cy (_, []) rfl (fun τ => rfl) (fun τ => op_ldRA _ inferInstance rfl rfl (by first | rfl | assumption | exact psl_geta _ _ (by omega)) rfl) ?_
          | refine any_cy (_, []) rfl (fun τ => rfl) (fun τ => op_ldFA _ inferInstance rfl (by first | rfl | assumption | exact psl_geta _ _ (by omega)) rfl) ?_
        refine any_n (rfl : _ = [_, _, _, _, _, _, _, _, _]) ?_
        refine any_cy (_, []) rfl (fun τ => rfl) (fun τ => (op_callH inferInstance (by repeat' (first | exact argsLv_nil | refine argsLv_cons ?_ ?_ | exact Lv.v | exact lvI (by omega) | exact Lv.sl | exact Lv.fp | exact Lv.nil | refine Lv.agg rfl ?_ | refine Lv.fn rfl ?_ rfl ?_ | exact lv_nil | refine lv_cons ?_ ?_ | exact Lv.z0)) (hrl) rfl rfl)) ?_
        refine any_n (rfl : _ = [_, _, _, _, _, _, _, _, _, _]) ?_
        refine any_cy (_, []) rfl (fun τ => rfl) (fun τ => (op_callH inferInstance (by repeat' (first | exact argsLv_nil | refine argsLv_cons ?_ ?_ | exact Lv.v | exact lvI (by omega) | exact Lv.sl | exact Lv.fp | exact Lv.nil | refine Lv.agg rfl ?_ | refine Lv.fn rfl ?_ rfl ?_ | exact lv_nil | refine lv_cons ?_ ?_ | exact Lv.z0)) (same_true _ Z hLl (by omega)) rfl rfl)) ?_
        refine any_n (rfl : _ = [_, _, _, _, _, _, _, _, _, _, _]) ?_
        refine any_c (_, []) (fun τ => op_pick _ _ _ rfl (rfl : _ = AV.v (.bool _))) ?_
        refine any_n (rfl : _ = [_, _, _, _, _, _, _, _, _, _, _, _]) ?_
        refine any_c (_, []) (fun τ => op_mv _ (rfl : _ = AV.v (.bool _))) ?_
        refine any_n (rfl : _ = [_, _, _, _, _, _, _, _, _, _, _, _, _]) ?_
        refine any_cy (_, []) rfl (fun τ => rfl) (fun τ => (op_callH inferInstance (by repeat' (first | exact argsLv_nil | refine argsLv_cons ?_ ?_ | exact Lv.v | exact lvI (by omega) | exact Lv.sl | exact Lv.fp | exact Lv.nil | refine Lv.agg rfl ?_ | refine Lv.fn rfl ?_ rfl ?_ | exact lv_nil | refine lv_cons ?_ ?_ | exact Lv.z0)) (lives_spec) rfl rfl)) ?_
        refine any_n (rfl : _ = [_, _, _, _, _, _, _, _, _, _, _, _, _, _]) ?_
        refine any_c (_, []) (fun τ => op_pick _ _ _ rfl (rfl : _ = AV.v (.bool _))) ?_
        refine any_n (rfl : _ = [_, _, _, _, _, _, _, _, _, _, _, _, _, _, _]) ?_
        refine any_c (_, []) (fun τ => op_as _ (rfl : _ = AV.v (.bool _))) ?_
        refine any_n (rfl : _ = [_, _, _, _, _, _, _, _, _, _, _, _, _, _, _, _]) ?_
        refine any_end ⟨rfl, ?_⟩
        refine DL_nil (hK27 _ ?_)
        clear hK27; try clear K27
        refine D_ret ?_
        refine ret1 (.inr rfl) rfl (.tmp (rfl : _ = AV.v (.bool _))) (Le.out [] [] (lvB ?_) rfl rfl rfl trivial trivial)
        rfl
theorem owns_law (n : Int) (hn : -9223372036854775808 ≤ n ∧ n ≤ 9223372036854775807) (m : Nat) (l : List Int) (hm : l.length = m) (h1 : m ≤ 4611686018427387904) (hr : Rng l) :
    Spec Try.prog 7 (inSt [.v (.int .i64 n), .sl m (isl l)] []) (outSt (.v (.bool true)) []) := by
  obtain ⟨k, E, g⟩ := Gen.of n hn m l hm h1 hr
  by_cases hC : Cyc k E
  · exact owns_cyc n m l k E g hC
  · exact owns_ok n m l k E g hC
end Go.Proofs.Ytkbkmngbenohkaa
