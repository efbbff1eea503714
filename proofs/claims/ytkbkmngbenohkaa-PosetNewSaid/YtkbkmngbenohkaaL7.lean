/- The law PosetNew by the machine. -/
import Derived.Test.YtkbkmngbenohkaaA19
import Derived.Test.YtkbkmngbenohkaaM7
set_option linter.unusedSimpArgs false
set_option linter.unusedVariables false
namespace Go.Proofs.Ytkbkmngbenohkaa
open Go.RowKit

theorem lessI {k : Nat} {E : Prs} (hk : k ≤ 64) (hE : inE k E = true) (u v : Int) : Spec Try.prog 33 (inSt [.fp 0 (ord k (cloW k E)), .v (.int .i64 u), .v (.int .i64 v)] []) (outSt (.v (.bool (rless k (cl E) u v))) []) := by
  have := less_spec k _ (cloW_words (E := E) hk) u v
  rw [oless_r, wlt_clo hE] at this; exact this
theorem rlessI {k : Nat} {E : Prs} (hk : k ≤ 64) (hE : inE k E = true) (u v : Int) : Spec Try.prog 46 (inSt [.agg (rord k (cloM k E)), .v (.int .i64 u), .v (.int .i64 v)] []) (outSt (.v (.bool (rless k (cl E) u v))) []) := by
  have := rless_spec k _ (cloM_mat (E := E) hk) u v
  rw [mlt_clo hE] at this; exact this
theorem concI {k : Nat} {E : Prs} (hk : k ≤ 64) (hE : inE k E = true) (u v : Int) : Spec Try.prog 47 (inSt [.fp 0 (ord k (cloW k E)), .v (.int .i64 u), .v (.int .i64 v)] []) (outSt (.v (.bool (rconc k (cl E) u v))) []) := by
  have := conc_spec k _ (cloW_words (E := E) hk) u v
  rw [oconc_r, wlt_clo hE] at this; exact this
theorem rconcI {k : Nat} {E : Prs} (hk : k ≤ 64) (hE : inE k E = true) (u v : Int) : Spec Try.prog 48 (inSt [.agg (rord k (cloM k E)), .v (.int .i64 u), .v (.int .i64 v)] []) (outSt (.v (.bool (rconc k (cl E) u v))) []) := by
  have := rconc_spec k _ (cloM_mat (E := E) hk) u v
  rw [mlt_clo hE] at this; exact this
theorem newl_fbad (n : Int) (h2 : -9223372036854775808 ≤ n) (h3 : n ≤ 9223372036854775807) (k : Nat) (hk : around n 9 = (k : Int)) (m : Nat) (l : List Int) (hm : l.length = m) (h1 : m ≤ 4611686018427387904) (hr : Rng l) (E : Prs) (hEe : pairs k l = E) (x y a b : Int) (c : Int) (hc0 : (c == 0) = false) (hn1 : newR k E = .tup [.v (.pointer none), .v (.int .i64 c)]) (hn2 : rnewR k E = .tup [.agg zeroO, .v (.int .i64 c)]) :
    Spec Try.prog 8 (inSt [.v (.int .i64 n), .sl m (isl l), .agg [.v (.int .i64 x), .v (.int .i64 y)], .v (.bool false), .v (.int .i64 a), .v (.int .i64 b)] []) (outSt (.v (.bool true)) []) := by
  have hk8 := around_hi n 9 (by omega)
  have hpl := pairs_len k l
  rw [hEe] at hpl
  have hp := pairs_spec k (by omega) (by omega) m l hm h1 hr
  rw [hEe] at hp
  have hn := rnew_spec k (by omega) E.length E rfl (by omega)
  have ho := new_spec k (by omega) E.length E rfl (by omega)
  rw [hn2] at hn
  rw [hn1] at ho
  have ha := around_spec n 9 (by omega) (by omega) h2 h3
  rw [hk] at ha
  refine Spec.ofN Try.func8 rfl Try.ntmps8 rfl ?_
  refine D_seq fun K1 hK1 => ?_
  refine D_region ?_
  refine DL_c (op_box (8, 0) _ rfl rfl) ?_
  refine DL_c (op_as _ (rfl : _ = AV.v (.bool _))) ?_
  refine DL_nil (hK1 _ ?_)
  clear hK1; try clear K1
  refine D_seq fun K2 hK2 => ?_
  refine D_region ?_
  refine DL_c (op_mv _ (rfl : _ = AV.v (.int _ _))) ?_
  refine DL_c (op_callH inferInstance (by repeat' (first | exact argsLv_nil | refine argsLv_cons ?_ ?_ | exact Lv.v | exact Lv.sl | exact Lv.fp | exact Lv.nil | refine Lv.agg rfl ?_ | refine Lv.fn rfl ?_ rfl ?_ | exact lv_nil | refine lv_cons ?_ ?_ | exact Lv.z0)) (ha) rfl rfl) ?_
  refine DL_c (op_as _ (rfl : _ = AV.v (.int _ _))) ?_
  refine DL_nil (hK2 _ ?_)
  clear hK2; try clear K2
  refine D_seq fun K3 hK3 => ?_
  refine D_region ?_
  refine DL_c (op_mv _ (rfl : _ = AV.v (.int _ _))) ?_
  refine DL_c (op_mv _ (rfl : _ = AV.sl _ _)) ?_
  refine DL_c (op_callH inferInstance (by repeat' (first | exact argsLv_nil | refine argsLv_cons ?_ ?_ | exact Lv.v | exact Lv.sl | exact Lv.fp | exact Lv.nil | refine Lv.agg rfl ?_ | refine Lv.fn rfl ?_ rfl ?_ | exact lv_nil | refine lv_cons ?_ ?_ | exact Lv.z0)) (hp) rfl rfl) ?_
  refine DL_c (op_as _ (rfl : _ = AV.sl _ _)) ?_
  refine DL_nil (hK3 _ ?_)
  clear hK3; try clear K3
  refine D_seq fun K4 hK4 => ?_
  refine D_seq fun K5 hK5 => ?_
  refine D_region ?_
  refine DL_c (op_mv _ (rfl : _ = AV.v (.bool _))) ?_
  refine DL_nil (hK5 _ ?_)
  clear hK5; try clear K5
  refine D_cF rfl rfl ?_
  refine D_skip (hK4 _ ?_)
  clear hK4; try clear K4
  refine D_seq fun K6 hK6 => ?_
  refine D_region ?_
  refine DL_c (op_mv _ (rfl : _ = AV.v (.int _ _))) ?_
  refine DL_c (op_mv _ (rfl : _ = AV.sl _ _)) ?_
  refine DL_c (op_callH inferInstance (by repeat' (first | exact argsLv_nil | refine argsLv_cons ?_ ?_ | exact Lv.v | exact Lv.sl | exact Lv.fp | exact Lv.nil | refine Lv.agg rfl ?_ | refine Lv.fn rfl ?_ rfl ?_ | exact lv_nil | refine lv_cons ?_ ?_ | exact Lv.z0)) (ho) rfl rfl) ?_
  refine DL_c (op_mv _ (rfl : _ = AV.tup _)) ?_
  first
    | refine DL_c (op_ext _ rfl (rfl : _ = some (AV.ptr _ _))) ?_
    | refine DL_c (op_ext _ rfl (rfl : _ = some (AV.fp _ _))) ?_
    | refine DL_c (op_ext _ rfl (rfl : _ = some (AV.v (.pointer _)))) ?_
  refine DL_c (op_ext _ rfl (rfl : _ = some (AV.v (.int _ _)))) ?_
  first
    | refine DL_c (op_as _ (rfl : _ = AV.ptr _ _)) ?_
    | refine DL_c (op_as _ (rfl : _ = AV.fp _ _)) ?_
    | refine DL_c (op_as _ (rfl : _ = AV.v (.pointer _))) ?_
  refine DL_c (op_as _ (rfl : _ = AV.v (.int _ _))) ?_
  refine DL_nil (hK6 _ ?_)
  clear hK6; try clear K6
  refine D_seq fun K7 hK7 => ?_
  refine D_le (σ' := mkStI 115 [(4, _), (5, _), (13, _), (14, _), (15, _), (16, _)] [] [] []) (by
    refine Le.mkJ [] [] rfl ?_ ?_ trivial trivial ?_
    · exact ⟨(iV rfl), (iV rfl), (iV rfl), (iS rfl), (by first | exact iP rfl | exact iF rfl | exact iV rfl | exact iD rfl), (iV rfl), trivial⟩
    · exact trivial
    · kernel_rfl) ?_
  refine D_region ?_
  refine DL_c (op_mv _ (rfl : _ = AV.v (.int _ _))) ?_
  refine DL_c (op_mv _ (rfl : _ = AV.sl _ _)) ?_
  refine DL_c (op_callH inferInstance (by repeat' (first | exact argsLv_nil | refine argsLv_cons ?_ ?_ | exact Lv.v | exact Lv.sl | exact Lv.fp | exact Lv.nil | refine Lv.agg rfl ?_ | refine Lv.fn rfl ?_ rfl ?_ | exact lv_nil | refine lv_cons ?_ ?_ | exact Lv.z0)) (hn) rfl rfl) ?_
  refine DL_c (op_mv _ (rfl : _ = AV.tup _)) ?_
  first
    | refine DL_c (op_ext _ rfl (rfl : _ = some (AV.agg _))) ?_
    | refine DL_c (op_ext _ rfl (rfl : _ = some (AV.v (.agg _)))) ?_
  refine DL_c (op_ext _ rfl (rfl : _ = some (AV.v (.int _ _)))) ?_
  refine DL_c (op_alloc (17, 0) inferInstance rfl rfl) ?_
  refine DL_c (op_stB _ _ inferInstance rfl rfl rfl rfl (Nat.le_of_ble_eq_true rfl) rfl) ?_
  refine DL_c (op_as _ (rfl : _ = AV.v (.int _ _))) ?_
  refine DL_nil (hK7 _ ?_)
  clear hK7; try clear K7
  refine D_seq fun K8 hK8 => ?_
  refine D_seq fun K9 hK9 => ?_
  refine D_region ?_
  refine DL_c (op_mv _ (rfl : _ = AV.v (.int _ _))) ?_
  refine DL_c (op_mv _ (rfl : _ = AV.v (.int _ _))) ?_
  refine DL_c (op_neq (r := false) _ _ rfl rfl (by simp)) ?_
  refine DL_c (op_mv _ (rfl : _ = AV.v (.bool _))) ?_
  first
    | refine DL_cy rfl rfl (op_mv _ (rfl : _ = AV.ptr _ _)) ?_
    | refine DL_cy rfl rfl (op_mv _ (rfl : _ = AV.fp _ _)) ?_
    | refine DL_cy rfl rfl (op_mv _ (rfl : _ = AV.v (.pointer _))) ?_
  first
    | refine DL_cy rfl rfl (op_neP _ _ (by kernel_rfl) rfl rfl) ?_
    | refine DL_cy rfl rfl (op_neN _ _ (by kernel_rfl) (.inr ⟨_, _, rfl⟩) rfl) ?_
    | refine DL_cy rfl rfl (op_neN _ _ (by kernel_rfl) (.inl ⟨_, _, _, rfl, rfl⟩) rfl) ?_
  refine DL_cy rfl rfl (op_mv _ (rfl : _ = AV.v (.int _ _))) ?_
  refine DL_cy rfl rfl (op_eql (r := false) _ _ rfl rfl hc0) ?_
  refine DL_cy rfl rfl (op_neB (r := false) _ _ rfl rfl Try.underlying4 rfl) ?_
  refine DL_c (op_pick _ _ _ rfl (rfl : _ = AV.v (.bool _))) ?_
  refine DL_nil (hK9 _ ?_)
  clear hK9; try clear K9
  refine D_cF rfl rfl ?_
  refine D_skip (hK8 _ ?_)
  clear hK8; try clear K8
  refine D_seq fun K10 hK10 => ?_
  refine D_seq fun K11 hK11 => ?_
  refine D_le (σ' := mkStI 115 [(4, _), (5, _), (13, _), (15, _), (17, _)] [((17, 0), _)] [] []) (by
    refine Le.mkJ [] [] rfl ?_ ?_ trivial trivial ?_
    · exact ⟨(iV rfl), (iV rfl), (iV rfl), (by first | exact iP rfl | exact iF rfl | exact iV rfl | exact iD rfl), (iP rfl), trivial⟩
    · exact ⟨(obE rfl rfl rfl), trivial⟩
    · kernel_rfl) ?_
  refine D_region ?_
  first
    | refine DL_c (op_mv _ (rfl : _ = AV.ptr _ _)) ?_
    | refine DL_c (op_mv _ (rfl : _ = AV.fp _ _)) ?_
    | refine DL_c (op_mv _ (rfl : _ = AV.v (.pointer _))) ?_
  first
    | refine DL_c (op_eqP _ _ (by kernel_rfl) rfl rfl) ?_
    | refine DL_c (op_eqN _ _ (by kernel_rfl) (.inr ⟨_, _, rfl⟩) rfl) ?_
    | refine DL_c (op_eqN _ _ (by kernel_rfl) (.inl ⟨_, _, _, rfl, rfl⟩) rfl) ?_
  refine DL_nil (hK11 _ ?_)
  clear hK11; try clear K11
  refine D_cT rfl rfl ?_
  refine D_seq fun K12 hK12 => ?_
  refine D_region ?_
  refine DL_c (op_callH inferInstance (by repeat' (first | exact argsLv_nil | refine argsLv_cons ?_ ?_ | exact Lv.v | exact Lv.sl | exact Lv.fp | exact Lv.nil | refine Lv.agg rfl ?_ | refine Lv.fn rfl ?_ rfl ?_ | exact lv_nil | refine lv_cons ?_ ?_ | exact Lv.z0)) (lives_spec) rfl rfl) ?_
  refine DL_c (op_as _ (rfl : _ = AV.v (.bool _))) ?_
  refine DL_nil (hK12 _ ?_)
  clear hK12; try clear K12
  refine D_ret ?_
  refine ret1 (.inr rfl) rfl (.tmp (rfl : _ = AV.v (.bool _))) (Le.out [] [] (lvB ?_) rfl rfl rfl trivial trivial)
  rfl
theorem newl_fok (n : Int) (h2 : -9223372036854775808 ≤ n) (h3 : n ≤ 9223372036854775807) (k : Nat) (hk : around n 9 = (k : Int)) (m : Nat) (l : List Int) (hm : l.length = m) (h1 : m ≤ 4611686018427387904) (hr : Rng l) (E : Prs) (hEe : pairs k l = E) (x y a b : Int) (hE : inE k E = true) (hC : ¬ Cyc k E) :
    Spec Try.prog 8 (inSt [.v (.int .i64 n), .sl m (isl l), .agg [.v (.int .i64 x), .v (.int .i64 y)], .v (.bool false), .v (.int .i64 a), .v (.int .i64 b)] []) (outSt (.v (.bool true)) []) := by
  have hk8 := around_hi n 9 (by omega)
  have hpl := pairs_len k l
  rw [hEe] at hpl
  have hp := pairs_spec k (by omega) (by omega) m l hm h1 hr
  rw [hEe] at hp
  have hn := rnew_spec k (by omega) E.length E rfl (by omega)
  have ho := new_spec k (by omega) E.length E rfl (by omega)
  rw [rnewR_ok hE hC] at hn
  rw [newR_ok hE hC] at ho
  have hls := fun u v => lessI (k := k) (E := E) (by omega) hE u v
  have hrl := fun u v => rlessI (k := k) (E := E) (by omega) hE u v
  have hcs := fun u v => concI (k := k) (E := E) (by omega) hE u v
  have hrc := fun u v => rconcI (k := k) (E := E) (by omega) hE u v
  have ha := around_spec n 9 (by omega) (by omega) h2 h3
  rw [hk] at ha
  refine Spec.ofN Try.func8 rfl Try.ntmps8 rfl ?_
  refine D_seq fun K1 hK1 => ?_
  refine D_region ?_
  refine DL_c (op_box (8, 0) _ rfl rfl) ?_
  refine DL_c (op_as _ (rfl : _ = AV.v (.bool _))) ?_
  refine DL_nil (hK1 _ ?_)
  clear hK1; try clear K1
  refine D_seq fun K2 hK2 => ?_
  refine D_region ?_
  refine DL_c (op_mv _ (rfl : _ = AV.v (.int _ _))) ?_
  refine DL_c (op_callH inferInstance (by repeat' (first | exact argsLv_nil | refine argsLv_cons ?_ ?_ | exact Lv.v | exact Lv.sl | exact Lv.fp | exact Lv.nil | refine Lv.agg rfl ?_ | refine Lv.fn rfl ?_ rfl ?_ | exact lv_nil | refine lv_cons ?_ ?_ | exact Lv.z0)) (ha) rfl rfl) ?_
  refine DL_c (op_as _ (rfl : _ = AV.v (.int _ _))) ?_
  refine DL_nil (hK2 _ ?_)
  clear hK2; try clear K2
  refine D_seq fun K3 hK3 => ?_
  refine D_region ?_
  refine DL_c (op_mv _ (rfl : _ = AV.v (.int _ _))) ?_
  refine DL_c (op_mv _ (rfl : _ = AV.sl _ _)) ?_
  refine DL_c (op_callH inferInstance (by repeat' (first | exact argsLv_nil | refine argsLv_cons ?_ ?_ | exact Lv.v | exact Lv.sl | exact Lv.fp | exact Lv.nil | refine Lv.agg rfl ?_ | refine Lv.fn rfl ?_ rfl ?_ | exact lv_nil | refine lv_cons ?_ ?_ | exact Lv.z0)) (hp) rfl rfl) ?_
  refine DL_c (op_as _ (rfl : _ = AV.sl _ _)) ?_
  refine DL_nil (hK3 _ ?_)
  clear hK3; try clear K3
  refine D_seq fun K4 hK4 => ?_
  refine D_seq fun K5 hK5 => ?_
  refine D_region ?_
  refine DL_c (op_mv _ (rfl : _ = AV.v (.bool _))) ?_
  refine DL_nil (hK5 _ ?_)
  clear hK5; try clear K5
  refine D_cF rfl rfl ?_
  refine D_skip (hK4 _ ?_)
  clear hK4; try clear K4
  refine D_seq fun K6 hK6 => ?_
  refine D_region ?_
  refine DL_c (op_mv _ (rfl : _ = AV.v (.int _ _))) ?_
  refine DL_c (op_mv _ (rfl : _ = AV.sl _ _)) ?_
  refine DL_c (op_callH inferInstance (by repeat' (first | exact argsLv_nil | refine argsLv_cons ?_ ?_ | exact Lv.v | exact Lv.sl | exact Lv.fp | exact Lv.nil | refine Lv.agg rfl ?_ | refine Lv.fn rfl ?_ rfl ?_ | exact lv_nil | refine lv_cons ?_ ?_ | exact Lv.z0)) (ho) rfl rfl) ?_
  refine DL_c (op_mv _ (rfl : _ = AV.tup _)) ?_
  first
    | refine DL_c (op_ext _ rfl (rfl : _ = some (AV.ptr _ _))) ?_
    | refine DL_c (op_ext _ rfl (rfl : _ = some (AV.fp _ _))) ?_
    | refine DL_c (op_ext _ rfl (rfl : _ = some (AV.v (.pointer _)))) ?_
  refine DL_c (op_ext _ rfl (rfl : _ = some (AV.v (.int _ _)))) ?_
  refine DL_c (op_as _ (rfl : _ = AV.fp _ _)) ?_
  refine DL_c (op_as _ (rfl : _ = AV.v (.int _ _))) ?_
  refine DL_nil (hK6 _ ?_)
  clear hK6; try clear K6
  refine D_seq fun K7 hK7 => ?_
  refine D_le (σ' := mkStI 115 [(4, _), (5, _), (13, _), (14, _), (15, _), (16, _)] [] [] []) (by
    refine Le.mkJ [] [] rfl ?_ ?_ trivial trivial ?_
    · exact ⟨(iV rfl), (iV rfl), (iV rfl), (iS rfl), (iF rfl), (iV rfl), trivial⟩
    · exact trivial
    · kernel_rfl) ?_
  refine D_region ?_
  refine DL_c (op_mv _ (rfl : _ = AV.v (.int _ _))) ?_
  refine DL_c (op_mv _ (rfl : _ = AV.sl _ _)) ?_
  refine DL_c (op_callH inferInstance (by repeat' (first | exact argsLv_nil | refine argsLv_cons ?_ ?_ | exact Lv.v | exact Lv.sl | exact Lv.fp | exact Lv.nil | refine Lv.agg rfl ?_ | refine Lv.fn rfl ?_ rfl ?_ | exact lv_nil | refine lv_cons ?_ ?_ | exact Lv.z0)) (hn) rfl rfl) ?_
  refine DL_c (op_mv _ (rfl : _ = AV.tup _)) ?_
  first
    | refine DL_c (op_ext _ rfl (rfl : _ = some (AV.agg _))) ?_
    | refine DL_c (op_ext _ rfl (rfl : _ = some (AV.v (.agg _)))) ?_
  refine DL_c (op_ext _ rfl (rfl : _ = some (AV.v (.int _ _)))) ?_
  refine DL_c (op_alloc (17, 0) inferInstance rfl rfl) ?_
  refine DL_c (op_stB _ _ inferInstance rfl rfl rfl rfl (Nat.le_of_ble_eq_true rfl) rfl) ?_
  refine DL_c (op_as _ (rfl : _ = AV.v (.int _ _))) ?_
  refine DL_nil (hK7 _ ?_)
  clear hK7; try clear K7
  refine D_seq fun K8 hK8 => ?_
  refine D_seq fun K9 hK9 => ?_
  refine D_region ?_
  refine DL_c (op_mv _ (rfl : _ = AV.v (.int _ _))) ?_
  refine DL_c (op_mv _ (rfl : _ = AV.v (.int _ _))) ?_
  refine DL_c (op_neq (r := false) _ _ rfl rfl (by simp)) ?_
  refine DL_c (op_mv _ (rfl : _ = AV.v (.bool _))) ?_
  refine DL_cy rfl rfl (op_mv _ (rfl : _ = AV.fp _ _)) ?_
  refine DL_cy rfl rfl (op_neN _ _ (by kernel_rfl) (.inr ⟨_, _, rfl⟩) rfl) ?_
  refine DL_cy rfl rfl (op_mv _ (rfl : _ = AV.v (.int _ _))) ?_
  refine DL_cy rfl rfl (op_eql (r := true) _ _ rfl rfl rfl) ?_
  refine DL_cy rfl rfl (op_neB (r := false) _ _ rfl rfl Try.underlying4 rfl) ?_
  refine DL_c (op_pick _ _ _ rfl (rfl : _ = AV.v (.bool _))) ?_
  refine DL_nil (hK9 _ ?_)
  clear hK9; try clear K9
  refine D_cF rfl rfl ?_
  refine D_skip (hK8 _ ?_)
  clear hK8; try clear K8
  refine D_seq fun K10 hK10 => ?_
  refine D_seq fun K11 hK11 => ?_
  refine D_le (σ' := mkStI 115 [(4, _), (5, _), (13, _), (15, _), (17, _)] [((17, 0), _)] [] []) (by
    refine Le.mkJ [] [] rfl ?_ ?_ trivial trivial ?_
    · exact ⟨(iV rfl), (iV rfl), (iV rfl), (iF rfl), (iP rfl), trivial⟩
    · exact ⟨(obE rfl rfl rfl), trivial⟩
    · kernel_rfl) ?_
  refine D_region ?_
  refine DL_c (op_mv _ (rfl : _ = AV.fp _ _)) ?_
  refine DL_c (op_eqN _ _ (by kernel_rfl) (.inr ⟨_, _, rfl⟩) rfl) ?_
  refine DL_nil (hK11 _ ?_)
  clear hK11; try clear K11
  refine D_cF rfl rfl ?_
  refine D_skip (hK10 _ ?_)
  clear hK10; try clear K10
  refine D_seq fun K12 hK12 => ?_
  refine D_seq fun K13 hK13 => ?_
  refine D_region ?_
  refine DL_c (op_as _ (rfl : _ = AV.v (.int _ _))) ?_
  refine DL_nil (hK13 _ ?_)
  clear hK13; try clear K13
  refine D_block ?_
  refine D_loopL (α := Nat) (fun i => i ≤ k + 2) 115 [(4, _), (5, _), (13, _), (15, _), (17, _)] [((17, 0), _)] (fun i => [(19, .v (.int .i64 ((i : Int) - 1)))]) (fun i => []) [] [] (fun i => k + 2 - i) 0 ?_ (by
    refine Le.mkJ [] [] rfl ?_ ?_ trivial trivial ?_
    · exact ⟨(iV rfl), (iV rfl), (iV rfl), (iF rfl), (iP rfl), (lvI (by first | rfl | omega | (simp; done) | (simp; omega) | assumption)), trivial⟩
    · exact ⟨(obE rfl rfl rfl), trivial⟩
    · kernel_rfl) ?_
  · first | omega | trivial | exact ⟨by omega, by omega⟩
  intro i hi
  refine D_seq fun K14 hK14 => ?_
  refine D_seq fun K15 hK15 => ?_
  refine D_region ?_
  refine DL_c (op_mv _ (rfl : _ = AV.v (.int _ _))) ?_
  refine DL_c (op_mv _ (rfl : _ = AV.v (.int _ _))) ?_
  first
    | refine DL_c (op_leq _ _ rfl rfl (by assumption)) ?_
    | refine DL_c (op_leq _ _ rfl rfl rfl) ?_
  refine DL_nil (hK15 _ ?_)
  clear hK15; try clear K15
  refine D_splitC rfl (fun hc58 => ?_) (fun hc58 => ?_)
  · skip
    refine D_skip (hK14 _ ?_)
    clear hK14; try clear K14
    refine D_seq fun K16 hK16 => ?_
    refine D_block ?_
    refine D_seq fun K17 hK17 => ?_
    refine D_region ?_
    refine DL_c (op_as _ (rfl : _ = AV.v (.int _ _))) ?_
    refine DL_nil (hK17 _ ?_)
    clear hK17; try clear K17
    refine D_block ?_
    refine D_loopL (α := Nat) (fun j => j ≤ k + 2) 115 [(4, _), (5, _), (13, _), (15, _), (17, _), (19, _)] [((17, 0), _)] (fun j => [(20, .v (.int .i64 ((j : Int) - 1)))]) (fun j => []) [] [] (fun j => k + 2 - j) 0 ?_ (by
      refine Le.mkJ [] [] rfl ?_ ?_ trivial trivial ?_
      · exact ⟨(iV rfl), (iV rfl), (iV rfl), (iF rfl), (iP rfl), (iV rfl), (lvI (by first | rfl | omega | (simp; done) | (simp; omega) | assumption)), trivial⟩
      · exact ⟨(obE rfl rfl rfl), trivial⟩
      · kernel_rfl) ?_
    · first | omega | trivial | exact ⟨by omega, by omega⟩
    intro j hj
    refine D_seq fun K18 hK18 => ?_
    refine D_seq fun K19 hK19 => ?_
    refine D_region ?_
    refine DL_c (op_mv _ (rfl : _ = AV.v (.int _ _))) ?_
    refine DL_c (op_mv _ (rfl : _ = AV.v (.int _ _))) ?_
    first
      | refine DL_c (op_leq _ _ rfl rfl (by assumption)) ?_
      | refine DL_c (op_leq _ _ rfl rfl rfl) ?_
    refine DL_nil (hK19 _ ?_)
    clear hK19; try clear K19
    refine D_splitC rfl (fun hc63 => ?_) (fun hc63 => ?_)
    · skip
      refine D_skip (hK18 _ ?_)
      clear hK18; try clear K18
      refine D_seq fun K20 hK20 => ?_
      refine D_block ?_
      refine D_seq fun K21 hK21 => ?_
      refine D_anyL 20 [66, 67, 68, 69, 70, 71, 72, 73, 74, 75, 76, 77, 78, 79, 80, 81, 82, 83, 84, 85] [] (by kernel_rfl) (by kernel_rfl) rfl (nodupO_iff rfl) (rfl : _ = [_, _, _, _, _, _, _, _, _, _, _, _, _, _, _, _, _, _, _, _]) (rfl : _ = []) ?_
      refine any_c (_, []) (fun τ => op_mv _ (rfl : _ = AV.fp _ _)) ?_
      refine any_n (rfl : _ = [_]) ?_
      refine any_c (_, []) (fun τ => op_mv _ (rfl : _ = AV.v (.int _ _))) ?_
      refine any_n (rfl : _ = [_, _]) ?_
      refine any_c (_, []) (fun τ => op_mv _ (rfl : _ = AV.v (.int _ _))) ?_
      refine any_n (rfl : _ = [_, _, _]) ?_
      refine any_c (_, []) (fun τ => (op_callH inferInstance (by repeat' (first | exact argsLv_nil | refine argsLv_cons ?_ ?_ | exact Lv.v | exact Lv.sl | exact Lv.fp | exact Lv.nil | refine Lv.agg rfl ?_ | refine Lv.fn rfl ?_ rfl ?_ | exact lv_nil | refine lv_cons ?_ ?_ | exact Lv.z0)) (hls ((i : Int) - 1) ((j : Int) - 1)) rfl rfl)) ?_
      refine any_n (rfl : _ = [_, _, _, _]) ?_
      first
        | refine any_c (_, []) (fun τ => op_ldBA _ inferInstance rfl rfl rfl rfl) ?_
        | refine any_c (_, []) (fun τ => op_ldRA _ inferInstance rfl rfl (by first | rfl | assumption) rfl) ?_
        | refine any_c (_, []) (fun τ => op_ldFA _ inferInstance rfl (by first | rfl | assumption) rfl) ?_
      refine any_n (rfl : _ = [_, _, _, _, _]) ?_
      refine any_c (_, []) (fun τ => op_mv _ (rfl : _ = AV.v (.int _ _))) ?_
      refine any_n (rfl : _ = [_, _, _, _, _, _]) ?_
      refine any_c (_, []) (fun τ => op_mv _ (rfl : _ = AV.v (.int _ _))) ?_
      refine any_n (rfl : _ = [_, _, _, _, _, _, _]) ?_
      refine any_c (_, []) (fun τ => (op_callH inferInstance (by repeat' (first | exact argsLv_nil | refine argsLv_cons ?_ ?_ | exact Lv.v | exact Lv.sl | exact Lv.fp | exact Lv.nil | refine Lv.agg rfl ?_ | refine Lv.fn rfl ?_ rfl ?_ | exact lv_nil | refine lv_cons ?_ ?_ | exact Lv.z0)) (hrl ((i : Int) - 1) ((j : Int) - 1)) rfl rfl)) ?_
      refine any_n (rfl : _ = [_, _, _, _, _, _, _, _]) ?_
      refine any_c (_, []) (fun τ => op_neB (r := false) _ _ rfl rfl Try.underlying4 (by simp)) ?_
      refine any_n (rfl : _ = [_, _, _, _, _, _, _, _, _]) ?_
      refine any_c (_, []) (fun τ => op_mv _ (rfl : _ = AV.v (.bool _))) ?_
      refine any_n (rfl : _ = [_, _, _, _, _, _, _, _, _, _]) ?_
      refine any_cy (_, []) rfl (fun τ => rfl) (fun τ => op_mv _ (rfl : _ = AV.fp _ _)) ?_
      refine any_n (rfl : _ = [_, _, _, _, _, _, _, _, _, _, _]) ?_
      refine any_cy (_, []) rfl (fun τ => rfl) (fun τ => op_mv _ (rfl : _ = AV.v (.int _ _))) ?_
      refine any_n (rfl : _ = [_, _, _, _, _, _, _, _, _, _, _, _]) ?_
      refine any_cy (_, []) rfl (fun τ => rfl) (fun τ => op_mv _ (rfl : _ = AV.v (.int _ _))) ?_
      refine any_n (rfl : _ = [_, _, _, _, _, _, _, _, _, _, _, _, _]) ?_
      refine any_cy (_, []) rfl (fun τ => rfl) (fun τ => (op_callH inferInstance (by repeat' (first | exact argsLv_nil | refine argsLv_cons ?_ ?_ | exact Lv.v | exact Lv.sl | exact Lv.fp | exact Lv.nil | refine Lv.agg rfl ?_ | refine Lv.fn rfl ?_ rfl ?_ | exact lv_nil | refine lv_cons ?_ ?_ | exact Lv.z0)) (hcs ((i : Int) - 1) ((j : Int) - 1)) rfl rfl)) ?_
      refine any_n (rfl : _ = [_, _, _, _, _, _, _, _, _, _, _, _, _, _]) ?_
      first
        | refine any_cy (_, []) rfl (fun τ => rfl) (fun τ => op_ldBA _ inferInstance rfl rfl rfl rfl) ?_
        | refine any_cy (_, []) rfl (fun τ => rfl) (fun τ => op_ldRA _ inferInstance rfl rfl (by first | rfl | assumption) rfl) ?_
        | refine any_cy (_, []) rfl (fun τ => rfl) (fun τ => op_ldFA _ inferInstance rfl (by first | rfl | assumption) rfl) ?_
      refine any_n (rfl : _ = [_, _, _, _, _, _, _, _, _, _, _, _, _, _, _]) ?_
      refine any_cy (_, []) rfl (fun τ => rfl) (fun τ => op_mv _ (rfl : _ = AV.v (.int _ _))) ?_
      refine any_n (rfl : _ = [_, _, _, _, _, _, _, _, _, _, _, _, _, _, _, _]) ?_
      refine any_cy (_, []) rfl (fun τ => rfl) (fun τ => op_mv _ (rfl : _ = AV.v (.int _ _))) ?_
      refine any_n (rfl : _ = [_, _, _, _, _, _, _, _, _, _, _, _, _, _, _, _, _]) ?_
      refine any_cy (_, []) rfl (fun τ => rfl) (fun τ => (op_callH inferInstance (by repeat' (first | exact argsLv_nil | refine argsLv_cons ?_ ?_ | exact Lv.v | exact Lv.sl | exact Lv.fp | exact Lv.nil | refine Lv.agg rfl ?_ | refine Lv.fn rfl ?_ rfl ?_ | exact lv_nil | refine lv_cons ?_ ?_ | exact Lv.z0)) (hrc ((i : Int) - 1) ((j : Int) - 1)) rfl rfl)) ?_
      refine any_n (rfl : _ = [_, _, _, _, _, _, _, _, _, _, _, _, _, _, _, _, _, _]) ?_
      refine any_cy (_, []) rfl (fun τ => rfl) (fun τ => op_neB (r := false) _ _ rfl rfl Try.underlying4 (by simp)) ?_
      refine any_n (rfl : _ = [_, _, _, _, _, _, _, _, _, _, _, _, _, _, _, _, _, _, _]) ?_
      refine any_c (_, []) (fun τ => op_pick _ _ _ rfl (rfl : _ = AV.v (.bool _))) ?_
      refine any_n (rfl : _ = [_, _, _, _, _, _, _, _, _, _, _, _, _, _, _, _, _, _, _, _]) ?_
      refine any_end ⟨rfl, ?_⟩
      refine DL_nil (hK21 _ ?_)
      clear hK21; try clear K21
      refine D_cF rfl rfl ?_
      refine D_skip (hK20 _ ?_)
      clear hK20; try clear K20
      refine D_le (σ' := mkStI 115 [(4, _), (5, _), (13, _), (15, _), (17, _), (19, _), (20, _)] [((17, 0), _)] [] []) (by
        refine Le.mkJ [] [] rfl ?_ ?_ trivial trivial ?_
        · exact ⟨(iV rfl), (iV rfl), (iV rfl), (iF rfl), (iP rfl), (iV rfl), (iV rfl), trivial⟩
        · exact ⟨(obE rfl rfl rfl), trivial⟩
        · kernel_rfl) ?_
      refine D_region ?_
      refine DL_c (op_mv _ (rfl : _ = AV.v (.int _ _))) ?_
      first
        | refine DL_c (op_add _ _ rfl rfl (i64w (by omega))) ?_
        | refine DL_c (op_add _ _ rfl rfl rfl) ?_
      refine DL_c (op_as _ (rfl : _ = AV.v (.int _ _))) ?_
      refine DL_nil ?_
      refine ⟨j + 1, ?_, ?_, ?_⟩
      · first | omega | trivial | exact ⟨by omega, by omega⟩
      · skip
        refine Le.mkJ [] [] rfl ?_ ?_ trivial trivial ?_
        · exact ⟨(iV rfl), (iV rfl), (iV rfl), (iF rfl), (iP rfl), (iV rfl), (lvI (by first | rfl | omega | (simp; done) | (simp; omega) | assumption)), trivial⟩
        · exact ⟨(obE rfl rfl rfl), trivial⟩
        · kernel_rfl
      · omega
    · skip
      refine D_exit ?_
      refine id (hK16 _ ?_)
      clear hK16; try clear K16
      refine D_region ?_
      refine DL_c (op_mv _ (rfl : _ = AV.v (.int _ _))) ?_
      first
        | refine DL_c (op_add _ _ rfl rfl (i64w (by omega))) ?_
        | refine DL_c (op_add _ _ rfl rfl rfl) ?_
      refine DL_c (op_as _ (rfl : _ = AV.v (.int _ _))) ?_
      refine DL_nil ?_
      refine ⟨i + 1, ?_, ?_, ?_⟩
      · first | omega | trivial | exact ⟨by omega, by omega⟩
      · skip
        refine Le.mkJ [] [] rfl ?_ ?_ trivial trivial ?_
        · exact ⟨(iV rfl), (iV rfl), (iV rfl), (iF rfl), (iP rfl), (lvI (by first | rfl | omega | (simp; done) | (simp; omega) | assumption)), trivial⟩
        · exact ⟨(obE rfl rfl rfl), trivial⟩
        · kernel_rfl
      · omega
  · skip
    refine D_exit ?_
    refine id (hK12 _ ?_)
    clear hK12; try clear K12
    refine D_seq fun K22 hK22 => ?_
    refine D_anyL 30 [86, 87, 88, 89, 90, 91, 92, 93, 94, 95, 96, 97, 98, 99, 100, 101, 102, 103, 104, 105, 106, 107, 108, 109, 110, 111, 112, 113, 114, 12] [] (by kernel_rfl) (by kernel_rfl) rfl (nodupO_iff rfl) (rfl : _ = [_, _, _, _, _, _, _, _, _, _, _, _, _, _, _, _, _, _, _, _, _, _, _, _, _, _, _, _, _, _]) (rfl : _ = []) ?_
    refine any_c (_, []) (fun τ => op_mv _ (rfl : _ = AV.fp _ _)) ?_
    refine any_n (rfl : _ = [_]) ?_
    refine any_c (_, []) (fun τ => (op_callH inferInstance (by repeat' (first | exact argsLv_nil | refine argsLv_cons ?_ ?_ | exact Lv.v | exact Lv.sl | exact Lv.fp | exact Lv.nil | refine Lv.agg rfl ?_ | refine Lv.fn rfl ?_ rfl ?_ | exact lv_nil | refine lv_cons ?_ ?_ | exact Lv.z0)) (olen_spec k _) rfl rfl)) ?_
    refine any_n (rfl : _ = [_, _]) ?_
    refine any_c (_, []) (fun τ => op_mv _ (rfl : _ = AV.v (.int _ _))) ?_
    refine any_n (rfl : _ = [_, _, _]) ?_
    refine any_c (_, []) (fun τ => op_eql (r := true) _ _ rfl rfl (by simp)) ?_
    refine any_n (rfl : _ = [_, _, _, _]) ?_
    refine any_c (_, []) (fun τ => op_mv _ (rfl : _ = AV.v (.bool _))) ?_
    refine any_n (rfl : _ = [_, _, _, _, _]) ?_
    refine any_cy (_, []) rfl (fun τ => rfl) (fun τ => op_mv _ (rfl : _ = AV.fp _ _)) ?_
    refine any_n (rfl : _ = [_, _, _, _, _, _]) ?_
    refine any_cy (_, []) rfl (fun τ => rfl) (fun τ => op_mv _ (rfl : _ = AV.v (.int _ _))) ?_
    refine any_n (rfl : _ = [_, _, _, _, _, _, _]) ?_
    refine any_cy (_, []) rfl (fun τ => rfl) (fun τ => op_mv _ (rfl : _ = AV.v (.int _ _))) ?_
    refine any_n (rfl : _ = [_, _, _, _, _, _, _, _]) ?_
    refine any_cy (_, []) rfl (fun τ => rfl) (fun τ => (op_callH inferInstance (by repeat' (first | exact argsLv_nil | refine argsLv_cons ?_ ?_ | exact Lv.v | exact Lv.sl | exact Lv.fp | exact Lv.nil | refine Lv.agg rfl ?_ | refine Lv.fn rfl ?_ rfl ?_ | exact lv_nil | refine lv_cons ?_ ?_ | exact Lv.z0)) (hls a b) rfl rfl)) ?_
    refine any_n (rfl : _ = [_, _, _, _, _, _, _, _, _]) ?_
    first
      | refine any_cy (_, []) rfl (fun τ => rfl) (fun τ => op_ldBA _ inferInstance rfl rfl rfl rfl) ?_
      | refine any_cy (_, []) rfl (fun τ => rfl) (fun τ => op_ldRA _ inferInstance rfl rfl (by first | rfl | assumption) rfl) ?_
      | refine any_cy (_, []) rfl (fun τ => rfl) (fun τ => op_ldFA _ inferInstance rfl (by first | rfl | assumption) rfl) ?_
    refine any_n (rfl : _ = [_, _, _, _, _, _, _, _, _, _]) ?_
    refine any_cy (_, []) rfl (fun τ => rfl) (fun τ => op_mv _ (rfl : _ = AV.v (.int _ _))) ?_
    refine any_n (rfl : _ = [_, _, _, _, _, _, _, _, _, _, _]) ?_
    refine any_cy (_, []) rfl (fun τ => rfl) (fun τ => op_mv _ (rfl : _ = AV.v (.int _ _))) ?_
    refine any_n (rfl : _ = [_, _, _, _, _, _, _, _, _, _, _, _]) ?_
    refine any_cy (_, []) rfl (fun τ => rfl) (fun τ => (op_callH inferInstance (by repeat' (first | exact argsLv_nil | refine argsLv_cons ?_ ?_ | exact Lv.v | exact Lv.sl | exact Lv.fp | exact Lv.nil | refine Lv.agg rfl ?_ | refine Lv.fn rfl ?_ rfl ?_ | exact lv_nil | refine lv_cons ?_ ?_ | exact Lv.z0)) (hrl a b) rfl rfl)) ?_
    refine any_n (rfl : _ = [_, _, _, _, _, _, _, _, _, _, _, _, _]) ?_
    refine any_cy (_, []) rfl (fun τ => rfl) (fun τ => op_eqB (r := true) _ _ rfl rfl Try.underlying4 (by simp)) ?_
    refine any_n (rfl : _ = [_, _, _, _, _, _, _, _, _, _, _, _, _, _]) ?_
    refine any_c (_, []) (fun τ => op_pick _ _ _ rfl (rfl : _ = AV.v (.bool _))) ?_
    refine any_n (rfl : _ = [_, _, _, _, _, _, _, _, _, _, _, _, _, _, _]) ?_
    refine any_c (_, []) (fun τ => op_mv _ (rfl : _ = AV.v (.bool _))) ?_
    refine any_n (rfl : _ = [_, _, _, _, _, _, _, _, _, _, _, _, _, _, _, _]) ?_
    refine any_cy (_, []) rfl (fun τ => rfl) (fun τ => op_mv _ (rfl : _ = AV.fp _ _)) ?_
    refine any_n (rfl : _ = [_, _, _, _, _, _, _, _, _, _, _, _, _, _, _, _, _]) ?_
    refine any_cy (_, []) rfl (fun τ => rfl) (fun τ => op_mv _ (rfl : _ = AV.v (.int _ _))) ?_
    refine any_n (rfl : _ = [_, _, _, _, _, _, _, _, _, _, _, _, _, _, _, _, _, _]) ?_
    refine any_cy (_, []) rfl (fun τ => rfl) (fun τ => op_mv _ (rfl : _ = AV.v (.int _ _))) ?_
    refine any_n (rfl : _ = [_, _, _, _, _, _, _, _, _, _, _, _, _, _, _, _, _, _, _]) ?_
    refine any_cy (_, []) rfl (fun τ => rfl) (fun τ => (op_callH inferInstance (by repeat' (first | exact argsLv_nil | refine argsLv_cons ?_ ?_ | exact Lv.v | exact Lv.sl | exact Lv.fp | exact Lv.nil | refine Lv.agg rfl ?_ | refine Lv.fn rfl ?_ rfl ?_ | exact lv_nil | refine lv_cons ?_ ?_ | exact Lv.z0)) (hcs a b) rfl rfl)) ?_
    refine any_n (rfl : _ = [_, _, _, _, _, _, _, _, _, _, _, _, _, _, _, _, _, _, _, _]) ?_
    first
      | refine any_cy (_, []) rfl (fun τ => rfl) (fun τ => op_ldBA _ inferInstance rfl rfl rfl rfl) ?_
      | refine any_cy (_, []) rfl (fun τ => rfl) (fun τ => op_ldRA _ inferInstance rfl rfl (by first | rfl | assumption) rfl) ?_
      | refine any_cy (_, []) rfl (fun τ => rfl) (fun τ => op_ldFA _ inferInstance rfl (by first | rfl | assumption) rfl) ?_
    refine any_n (rfl : _ = [_, _, _, _, _, _, _, _, _, _, _, _, _, _, _, _, _, _, _, _, _]) ?_
    refine any_cy (_, []) rfl (fun τ => rfl) (fun τ => op_mv _ (rfl : _ = AV.v (.int _ _))) ?_
    refine any_n (rfl : _ = [_, _, _, _, _, _, _, _, _, _, _, _, _, _, _, _, _, _, _, _, _, _]) ?_
    refine any_cy (_, []) rfl (fun τ => rfl) (fun τ => op_mv _ (rfl : _ = AV.v (.int _ _))) ?_
    refine any_n (rfl : _ = [_, _, _, _, _, _, _, _, _, _, _, _, _, _, _, _, _, _, _, _, _, _, _]) ?_
    refine any_cy (_, []) rfl (fun τ => rfl) (fun τ => (op_callH inferInstance (by repeat' (first | exact argsLv_nil | refine argsLv_cons ?_ ?_ | exact Lv.v | exact Lv.sl | exact Lv.fp | exact Lv.nil | refine Lv.agg rfl ?_ | refine Lv.fn rfl ?_ rfl ?_ | exact lv_nil | refine lv_cons ?_ ?_ | exact Lv.z0)) (hrc a b) rfl rfl)) ?_
    refine any_n (rfl : _ = [_, _, _, _, _, _, _, _, _, _, _, _, _, _, _, _, _, _, _, _, _, _, _, _]) ?_
    refine any_cy (_, []) rfl (fun τ => rfl) (fun τ => op_eqB (r := true) _ _ rfl rfl Try.underlying4 (by simp)) ?_
    refine any_n (rfl : _ = [_, _, _, _, _, _, _, _, _, _, _, _, _, _, _, _, _, _, _, _, _, _, _, _, _]) ?_
    refine any_c (_, []) (fun τ => op_pick _ _ _ rfl (rfl : _ = AV.v (.bool _))) ?_
    refine any_n (rfl : _ = [_, _, _, _, _, _, _, _, _, _, _, _, _, _, _, _, _, _, _, _, _, _, _, _, _, _]) ?_
    refine any_c (_, []) (fun τ => op_mv _ (rfl : _ = AV.v (.bool _))) ?_
    refine any_n (rfl : _ = [_, _, _, _, _, _, _, _, _, _, _, _, _, _, _, _, _, _, _, _, _, _, _, _, _, _, _]) ?_
    refine any_cy (_, []) rfl (fun τ => rfl) (fun τ => (op_callH inferInstance (by repeat' (first | exact argsLv_nil | refine argsLv_cons ?_ ?_ | exact Lv.v | exact Lv.sl | exact Lv.fp | exact Lv.nil | refine Lv.agg rfl ?_ | refine Lv.fn rfl ?_ rfl ?_ | exact lv_nil | refine lv_cons ?_ ?_ | exact Lv.z0)) (lives_spec) rfl rfl)) ?_
    refine any_n (rfl : _ = [_, _, _, _, _, _, _, _, _, _, _, _, _, _, _, _, _, _, _, _, _, _, _, _, _, _, _, _]) ?_
    refine any_c (_, []) (fun τ => op_pick _ _ _ rfl (rfl : _ = AV.v (.bool _))) ?_
    refine any_n (rfl : _ = [_, _, _, _, _, _, _, _, _, _, _, _, _, _, _, _, _, _, _, _, _, _, _, _, _, _, _, _, _]) ?_
    refine any_c (_, []) (fun τ => op_as _ (rfl : _ = AV.v (.bool _))) ?_
    refine any_n (rfl : _ = [_, _, _, _, _, _, _, _, _, _, _, _, _, _, _, _, _, _, _, _, _, _, _, _, _, _, _, _, _, _]) ?_
    refine any_end ⟨rfl, ?_⟩
    refine DL_nil (hK22 _ ?_)
    clear hK22; try clear K22
    refine D_ret ?_
    refine ret1 (.inr rfl) rfl (.tmp (rfl : _ = AV.v (.bool _))) (Le.out [] [] (lvB ?_) rfl rfl rfl trivial trivial)
    rfl
theorem newl_tbad (n : Int) (h2 : -9223372036854775808 ≤ n) (h3 : n ≤ 9223372036854775807) (k : Nat) (hk : around n 9 = (k : Int)) (m : Nat) (l : List Int) (hm : l.length = m) (h1 : m ≤ 4611686018427387904) (hr : Rng l) (E : Prs) (hEe : pairs k l = E) (x y a b : Int) (c : Int) (hc0 : (c == 0) = false) (hn1 : newR k (E ++ [(x, y)]) = .tup [.v (.pointer none), .v (.int .i64 c)]) (hn2 : rnewR k (E ++ [(x, y)]) = .tup [.agg zeroO, .v (.int .i64 c)]) :
    Spec Try.prog 8 (inSt [.v (.int .i64 n), .sl m (isl l), .agg [.v (.int .i64 x), .v (.int .i64 y)], .v (.bool true), .v (.int .i64 a), .v (.int .i64 b)] []) (outSt (.v (.bool true)) []) := by
  have hk8 := around_hi n 9 (by omega)
  have hpl := pairs_len k l
  rw [hEe] at hpl
  have hp := pairs_own k (by omega) (by omega) m l hm h1 hr
  rw [hEe] at hp
  have hn := rnew_spec k (by omega) (E.length + 1) (E ++ [(x, y)]) (by simp) (by omega)
  have ho := new_spec k (by omega) (E.length + 1) (E ++ [(x, y)]) (by simp) (by omega)
  rw [hn2] at hn
  rw [hn1] at ho
  have ha := around_spec n 9 (by omega) (by omega) h2 h3
  rw [hk] at ha
  refine Spec.ofN Try.func8 rfl Try.ntmps8 rfl ?_
  refine D_seq fun K1 hK1 => ?_
  refine D_region ?_
  refine DL_c (op_box (8, 0) _ rfl rfl) ?_
  refine DL_c (op_as _ (rfl : _ = AV.v (.bool _))) ?_
  refine DL_nil (hK1 _ ?_)
  clear hK1; try clear K1
  refine D_seq fun K2 hK2 => ?_
  refine D_region ?_
  refine DL_c (op_mv _ (rfl : _ = AV.v (.int _ _))) ?_
  refine DL_c (op_callH inferInstance (by repeat' (first | exact argsLv_nil | refine argsLv_cons ?_ ?_ | exact Lv.v | exact Lv.sl | exact Lv.fp | exact Lv.nil | refine Lv.agg rfl ?_ | refine Lv.fn rfl ?_ rfl ?_ | exact lv_nil | refine lv_cons ?_ ?_ | exact Lv.z0)) (ha) rfl rfl) ?_
  refine DL_c (op_as _ (rfl : _ = AV.v (.int _ _))) ?_
  refine DL_nil (hK2 _ ?_)
  clear hK2; try clear K2
  refine D_seq fun K3 hK3 => ?_
  refine D_region ?_
  refine DL_c (op_mv _ (rfl : _ = AV.v (.int _ _))) ?_
  refine DL_c (op_mv _ (rfl : _ = AV.sl _ _)) ?_
  refine DL_c (op_callR inferInstance [((0, 8), (50, 0))] ?_ (hp.toI) trivial ⟨rfl, trivial⟩ (by kernel_rfl)) ?_
  · repeat' (first | exact argsR_nil | refine argsR_cons ?_ ?_ | exact Lv.v | exact lvI (by assumption) | exact lvI (by omega) | exact Lv.sl | exact Lv.fp | exact Lv.nil | exact lvRr rfl rfl | exact lvPr rfl | refine Lv.agg rfl ?_ | refine Lv.fn rfl ?_ rfl ?_ | exact lv_nil | refine lv_cons ?_ ?_)
  refine DL_c (op_as _ (rfl : _ = AV.ref _ _ _)) ?_
  refine DL_nil (hK3 _ ?_)
  clear hK3; try clear K3
  refine D_seq fun K4 hK4 => ?_
  refine D_seq fun K5 hK5 => ?_
  refine D_region ?_
  refine DL_c (op_mv _ (rfl : _ = AV.v (.bool _))) ?_
  refine DL_nil (hK5 _ ?_)
  clear hK5; try clear K5
  refine D_cT rfl rfl ?_
  refine D_region ?_
  refine DL_c (op_mv _ (rfl : _ = AV.ref _ _ _)) ?_
  first
    | refine DL_c (op_ldBA _ inferInstance rfl rfl rfl rfl) ?_
    | refine DL_c (op_ldRA _ inferInstance rfl rfl (by first | rfl | assumption) rfl) ?_
    | refine DL_c (op_ldFA _ inferInstance rfl (by first | rfl | assumption) rfl) ?_
  refine DL_c (op_bsF _ _ inferInstance rfl (by rfl) (by simp <;> rfl) (by decide) rfl) ?_
  refine DL_c (op_ap (30, 0) _ _ inferInstance rfl rfl (by simp; omega) (.sl rfl) (by omega) rfl (by exact psl_append E [(x, y)]) rfl) ?_
  refine DL_c (op_as _ (rfl : _ = AV.ref _ _ _)) ?_
  refine DL_nil (hK4 _ ?_)
  clear hK4; try clear K4
  refine D_seq fun K6 hK6 => ?_
  refine D_le (Le.frzS (ys := psl (E ++ [(x, y)])) 14 rfl rfl rfl (by rw [List.drop_zero]; exact List.take_of_length_le (by simp; omega)) (by simp; omega)) ?_
  refine D_region ?_
  refine DL_c (op_mv _ (rfl : _ = AV.v (.int _ _))) ?_
  refine DL_c (op_mv _ (rfl : _ = AV.sl _ _)) ?_
  refine DL_c (op_callH inferInstance (by repeat' (first | exact argsLv_nil | refine argsLv_cons ?_ ?_ | exact Lv.v | exact Lv.sl | exact Lv.fp | exact Lv.nil | refine Lv.agg rfl ?_ | refine Lv.fn rfl ?_ rfl ?_ | exact lv_nil | refine lv_cons ?_ ?_ | exact Lv.z0)) (ho) rfl rfl) ?_
  refine DL_c (op_mv _ (rfl : _ = AV.tup _)) ?_
  first
    | refine DL_c (op_ext _ rfl (rfl : _ = some (AV.ptr _ _))) ?_
    | refine DL_c (op_ext _ rfl (rfl : _ = some (AV.fp _ _))) ?_
    | refine DL_c (op_ext _ rfl (rfl : _ = some (AV.v (.pointer _)))) ?_
  refine DL_c (op_ext _ rfl (rfl : _ = some (AV.v (.int _ _)))) ?_
  first
    | refine DL_c (op_as _ (rfl : _ = AV.ptr _ _)) ?_
    | refine DL_c (op_as _ (rfl : _ = AV.fp _ _)) ?_
    | refine DL_c (op_as _ (rfl : _ = AV.v (.pointer _))) ?_
  refine DL_c (op_as _ (rfl : _ = AV.v (.int _ _))) ?_
  refine DL_nil (hK6 _ ?_)
  clear hK6; try clear K6
  refine D_seq fun K7 hK7 => ?_
  refine D_le (σ' := mkStI 115 [(4, _), (5, _), (13, _), (14, _), (15, _), (16, _)] [] [] []) (by
    refine Le.mkJ [] [] rfl ?_ ?_ trivial trivial ?_
    · exact ⟨(iV rfl), (iV rfl), (iV rfl), (iS rfl), (by first | exact iP rfl | exact iF rfl | exact iV rfl | exact iD rfl), (iV rfl), trivial⟩
    · exact trivial
    · kernel_rfl) ?_
  refine D_region ?_
  refine DL_c (op_mv _ (rfl : _ = AV.v (.int _ _))) ?_
  refine DL_c (op_mv _ (rfl : _ = AV.sl _ _)) ?_
  refine DL_c (op_callH inferInstance (by repeat' (first | exact argsLv_nil | refine argsLv_cons ?_ ?_ | exact Lv.v | exact Lv.sl | exact Lv.fp | exact Lv.nil | refine Lv.agg rfl ?_ | refine Lv.fn rfl ?_ rfl ?_ | exact lv_nil | refine lv_cons ?_ ?_ | exact Lv.z0)) (hn) rfl rfl) ?_
  refine DL_c (op_mv _ (rfl : _ = AV.tup _)) ?_
  first
    | refine DL_c (op_ext _ rfl (rfl : _ = some (AV.agg _))) ?_
    | refine DL_c (op_ext _ rfl (rfl : _ = some (AV.v (.agg _)))) ?_
  refine DL_c (op_ext _ rfl (rfl : _ = some (AV.v (.int _ _)))) ?_
  refine DL_c (op_alloc (17, 0) inferInstance rfl rfl) ?_
  refine DL_c (op_stB _ _ inferInstance rfl rfl rfl rfl (Nat.le_of_ble_eq_true rfl) rfl) ?_
  refine DL_c (op_as _ (rfl : _ = AV.v (.int _ _))) ?_
  refine DL_nil (hK7 _ ?_)
  clear hK7; try clear K7
  refine D_seq fun K8 hK8 => ?_
  refine D_seq fun K9 hK9 => ?_
  refine D_region ?_
  refine DL_c (op_mv _ (rfl : _ = AV.v (.int _ _))) ?_
  refine DL_c (op_mv _ (rfl : _ = AV.v (.int _ _))) ?_
  refine DL_c (op_neq (r := false) _ _ rfl rfl (by simp)) ?_
  refine DL_c (op_mv _ (rfl : _ = AV.v (.bool _))) ?_
  first
    | refine DL_cy rfl rfl (op_mv _ (rfl : _ = AV.ptr _ _)) ?_
    | refine DL_cy rfl rfl (op_mv _ (rfl : _ = AV.fp _ _)) ?_
    | refine DL_cy rfl rfl (op_mv _ (rfl : _ = AV.v (.pointer _))) ?_
  first
    | refine DL_cy rfl rfl (op_neP _ _ (by kernel_rfl) rfl rfl) ?_
    | refine DL_cy rfl rfl (op_neN _ _ (by kernel_rfl) (.inr ⟨_, _, rfl⟩) rfl) ?_
    | refine DL_cy rfl rfl (op_neN _ _ (by kernel_rfl) (.inl ⟨_, _, _, rfl, rfl⟩) rfl) ?_
  refine DL_cy rfl rfl (op_mv _ (rfl : _ = AV.v (.int _ _))) ?_
  refine DL_cy rfl rfl (op_eql (r := false) _ _ rfl rfl hc0) ?_
  refine DL_cy rfl rfl (op_neB (r := false) _ _ rfl rfl Try.underlying4 rfl) ?_
  refine DL_c (op_pick _ _ _ rfl (rfl : _ = AV.v (.bool _))) ?_
  refine DL_nil (hK9 _ ?_)
  clear hK9; try clear K9
  refine D_cF rfl rfl ?_
  refine D_skip (hK8 _ ?_)
  clear hK8; try clear K8
  refine D_seq fun K10 hK10 => ?_
  refine D_seq fun K11 hK11 => ?_
  refine D_le (σ' := mkStI 115 [(4, _), (5, _), (13, _), (15, _), (17, _)] [((17, 0), _)] [] []) (by
    refine Le.mkJ [] [] rfl ?_ ?_ trivial trivial ?_
    · exact ⟨(iV rfl), (iV rfl), (iV rfl), (by first | exact iP rfl | exact iF rfl | exact iV rfl | exact iD rfl), (iP rfl), trivial⟩
    · exact ⟨(obE rfl rfl rfl), trivial⟩
    · kernel_rfl) ?_
  refine D_region ?_
  first
    | refine DL_c (op_mv _ (rfl : _ = AV.ptr _ _)) ?_
    | refine DL_c (op_mv _ (rfl : _ = AV.fp _ _)) ?_
    | refine DL_c (op_mv _ (rfl : _ = AV.v (.pointer _))) ?_
  first
    | refine DL_c (op_eqP _ _ (by kernel_rfl) rfl rfl) ?_
    | refine DL_c (op_eqN _ _ (by kernel_rfl) (.inr ⟨_, _, rfl⟩) rfl) ?_
    | refine DL_c (op_eqN _ _ (by kernel_rfl) (.inl ⟨_, _, _, rfl, rfl⟩) rfl) ?_
  refine DL_nil (hK11 _ ?_)
  clear hK11; try clear K11
  refine D_cT rfl rfl ?_
  refine D_seq fun K12 hK12 => ?_
  refine D_region ?_
  refine DL_c (op_callH inferInstance (by repeat' (first | exact argsLv_nil | refine argsLv_cons ?_ ?_ | exact Lv.v | exact Lv.sl | exact Lv.fp | exact Lv.nil | refine Lv.agg rfl ?_ | refine Lv.fn rfl ?_ rfl ?_ | exact lv_nil | refine lv_cons ?_ ?_ | exact Lv.z0)) (lives_spec) rfl rfl) ?_
  refine DL_c (op_as _ (rfl : _ = AV.v (.bool _))) ?_
  refine DL_nil (hK12 _ ?_)
  clear hK12; try clear K12
  refine D_ret ?_
  refine ret1 (.inr rfl) rfl (.tmp (rfl : _ = AV.v (.bool _))) (Le.out [] [] (lvB ?_) rfl rfl rfl trivial trivial)
  rfl
theorem newl_tok (n : Int) (h2 : -9223372036854775808 ≤ n) (h3 : n ≤ 9223372036854775807) (k : Nat) (hk : around n 9 = (k : Int)) (m : Nat) (l : List Int) (hm : l.length = m) (h1 : m ≤ 4611686018427387904) (hr : Rng l) (E : Prs) (hEe : pairs k l = E) (x y a b : Int) (hE : inE k (E ++ [(x, y)]) = true) (hC : ¬ Cyc k (E ++ [(x, y)])) :
    Spec Try.prog 8 (inSt [.v (.int .i64 n), .sl m (isl l), .agg [.v (.int .i64 x), .v (.int .i64 y)], .v (.bool true), .v (.int .i64 a), .v (.int .i64 b)] []) (outSt (.v (.bool true)) []) := by
  have hk8 := around_hi n 9 (by omega)
  have hpl := pairs_len k l
  rw [hEe] at hpl
  have hp := pairs_own k (by omega) (by omega) m l hm h1 hr
  rw [hEe] at hp
  have hn := rnew_spec k (by omega) (E.length + 1) (E ++ [(x, y)]) (by simp) (by omega)
  have ho := new_spec k (by omega) (E.length + 1) (E ++ [(x, y)]) (by simp) (by omega)
  rw [rnewR_ok hE hC] at hn
  rw [newR_ok hE hC] at ho
  have hls := fun u v => lessI (k := k) (E := (E ++ [(x, y)])) (by omega) hE u v
  have hrl := fun u v => rlessI (k := k) (E := (E ++ [(x, y)])) (by omega) hE u v
  have hcs := fun u v => concI (k := k) (E := (E ++ [(x, y)])) (by omega) hE u v
  have hrc := fun u v => rconcI (k := k) (E := (E ++ [(x, y)])) (by omega) hE u v
  have ha := around_spec n 9 (by omega) (by omega) h2 h3
  rw [hk] at ha
  refine Spec.ofN Try.func8 rfl Try.ntmps8 rfl ?_
  refine D_seq fun K1 hK1 => ?_
  refine D_region ?_
  refine DL_c (op_box (8, 0) _ rfl rfl) ?_
  refine DL_c (op_as _ (rfl : _ = AV.v (.bool _))) ?_
  refine DL_nil (hK1 _ ?_)
  clear hK1; try clear K1
  refine D_seq fun K2 hK2 => ?_
  refine D_region ?_
  refine DL_c (op_mv _ (rfl : _ = AV.v (.int _ _))) ?_
  refine DL_c (op_callH inferInstance (by repeat' (first | exact argsLv_nil | refine argsLv_cons ?_ ?_ | exact Lv.v | exact Lv.sl | exact Lv.fp | exact Lv.nil | refine Lv.agg rfl ?_ | refine Lv.fn rfl ?_ rfl ?_ | exact lv_nil | refine lv_cons ?_ ?_ | exact Lv.z0)) (ha) rfl rfl) ?_
  refine DL_c (op_as _ (rfl : _ = AV.v (.int _ _))) ?_
  refine DL_nil (hK2 _ ?_)
  clear hK2; try clear K2
  refine D_seq fun K3 hK3 => ?_
  refine D_region ?_
  refine DL_c (op_mv _ (rfl : _ = AV.v (.int _ _))) ?_
  refine DL_c (op_mv _ (rfl : _ = AV.sl _ _)) ?_
  refine DL_c (op_callR inferInstance [((0, 8), (50, 0))] ?_ (hp.toI) trivial ⟨rfl, trivial⟩ (by kernel_rfl)) ?_
  · repeat' (first | exact argsR_nil | refine argsR_cons ?_ ?_ | exact Lv.v | exact lvI (by assumption) | exact lvI (by omega) | exact Lv.sl | exact Lv.fp | exact Lv.nil | exact lvRr rfl rfl | exact lvPr rfl | refine Lv.agg rfl ?_ | refine Lv.fn rfl ?_ rfl ?_ | exact lv_nil | refine lv_cons ?_ ?_)
  refine DL_c (op_as _ (rfl : _ = AV.ref _ _ _)) ?_
  refine DL_nil (hK3 _ ?_)
  clear hK3; try clear K3
  refine D_seq fun K4 hK4 => ?_
  refine D_seq fun K5 hK5 => ?_
  refine D_region ?_
  refine DL_c (op_mv _ (rfl : _ = AV.v (.bool _))) ?_
  refine DL_nil (hK5 _ ?_)
  clear hK5; try clear K5
  refine D_cT rfl rfl ?_
  refine D_region ?_
  refine DL_c (op_mv _ (rfl : _ = AV.ref _ _ _)) ?_
  first
    | refine DL_c (op_ldBA _ inferInstance rfl rfl rfl rfl) ?_
    | refine DL_c (op_ldRA _ inferInstance rfl rfl (by first | rfl | assumption) rfl) ?_
    | refine DL_c (op_ldFA _ inferInstance rfl (by first | rfl | assumption) rfl) ?_
  refine DL_c (op_bsF _ _ inferInstance rfl (by rfl) (by simp <;> rfl) (by decide) rfl) ?_
  refine DL_c (op_ap (30, 0) _ _ inferInstance rfl rfl (by simp; omega) (.sl rfl) (by omega) rfl (by exact psl_append E [(x, y)]) rfl) ?_
  refine DL_c (op_as _ (rfl : _ = AV.ref _ _ _)) ?_
  refine DL_nil (hK4 _ ?_)
  clear hK4; try clear K4
  refine D_seq fun K6 hK6 => ?_
  refine D_le (Le.frzS (ys := psl (E ++ [(x, y)])) 14 rfl rfl rfl (by rw [List.drop_zero]; exact List.take_of_length_le (by simp; omega)) (by simp; omega)) ?_
  refine D_region ?_
  refine DL_c (op_mv _ (rfl : _ = AV.v (.int _ _))) ?_
  refine DL_c (op_mv _ (rfl : _ = AV.sl _ _)) ?_
  refine DL_c (op_callH inferInstance (by repeat' (first | exact argsLv_nil | refine argsLv_cons ?_ ?_ | exact Lv.v | exact Lv.sl | exact Lv.fp | exact Lv.nil | refine Lv.agg rfl ?_ | refine Lv.fn rfl ?_ rfl ?_ | exact lv_nil | refine lv_cons ?_ ?_ | exact Lv.z0)) (ho) rfl rfl) ?_
  refine DL_c (op_mv _ (rfl : _ = AV.tup _)) ?_
  first
    | refine DL_c (op_ext _ rfl (rfl : _ = some (AV.ptr _ _))) ?_
    | refine DL_c (op_ext _ rfl (rfl : _ = some (AV.fp _ _))) ?_
    | refine DL_c (op_ext _ rfl (rfl : _ = some (AV.v (.pointer _)))) ?_
  refine DL_c (op_ext _ rfl (rfl : _ = some (AV.v (.int _ _)))) ?_
  refine DL_c (op_as _ (rfl : _ = AV.fp _ _)) ?_
  refine DL_c (op_as _ (rfl : _ = AV.v (.int _ _))) ?_
  refine DL_nil (hK6 _ ?_)
  clear hK6; try clear K6
  refine D_seq fun K7 hK7 => ?_
  refine D_le (σ' := mkStI 115 [(4, _), (5, _), (13, _), (14, _), (15, _), (16, _)] [] [] []) (by
    refine Le.mkJ [] [] rfl ?_ ?_ trivial trivial ?_
    · exact ⟨(iV rfl), (iV rfl), (iV rfl), (iS rfl), (iF rfl), (iV rfl), trivial⟩
    · exact trivial
    · kernel_rfl) ?_
  refine D_region ?_
  refine DL_c (op_mv _ (rfl : _ = AV.v (.int _ _))) ?_
  refine DL_c (op_mv _ (rfl : _ = AV.sl _ _)) ?_
  refine DL_c (op_callH inferInstance (by repeat' (first | exact argsLv_nil | refine argsLv_cons ?_ ?_ | exact Lv.v | exact Lv.sl | exact Lv.fp | exact Lv.nil | refine Lv.agg rfl ?_ | refine Lv.fn rfl ?_ rfl ?_ | exact lv_nil | refine lv_cons ?_ ?_ | exact Lv.z0)) (hn) rfl rfl) ?_
  refine DL_c (op_mv _ (rfl : _ = AV.tup _)) ?_
  first
    | refine DL_c (op_ext _ rfl (rfl : _ = some (AV.agg _))) ?_
    | refine DL_c (op_ext _ rfl (rfl : _ = some (AV.v (.agg _)))) ?_
  refine DL_c (op_ext _ rfl (rfl : _ = some (AV.v (.int _ _)))) ?_
  refine DL_c (op_alloc (17, 0) inferInstance rfl rfl) ?_
  refine DL_c (op_stB _ _ inferInstance rfl rfl rfl rfl (Nat.le_of_ble_eq_true rfl) rfl) ?_
  refine DL_c (op_as _ (rfl : _ = AV.v (.int _ _))) ?_
  refine DL_nil (hK7 _ ?_)
  clear hK7; try clear K7
  refine D_seq fun K8 hK8 => ?_
  refine D_seq fun K9 hK9 => ?_
  refine D_region ?_
  refine DL_c (op_mv _ (rfl : _ = AV.v (.int _ _))) ?_
  refine DL_c (op_mv _ (rfl : _ = AV.v (.int _ _))) ?_
  refine DL_c (op_neq (r := false) _ _ rfl rfl (by simp)) ?_
  refine DL_c (op_mv _ (rfl : _ = AV.v (.bool _))) ?_
  refine DL_cy rfl rfl (op_mv _ (rfl : _ = AV.fp _ _)) ?_
  refine DL_cy rfl rfl (op_neN _ _ (by kernel_rfl) (.inr ⟨_, _, rfl⟩) rfl) ?_
  refine DL_cy rfl rfl (op_mv _ (rfl : _ = AV.v (.int _ _))) ?_
  refine DL_cy rfl rfl (op_eql (r := true) _ _ rfl rfl rfl) ?_
  refine DL_cy rfl rfl (op_neB (r := false) _ _ rfl rfl Try.underlying4 rfl) ?_
  refine DL_c (op_pick _ _ _ rfl (rfl : _ = AV.v (.bool _))) ?_
  refine DL_nil (hK9 _ ?_)
  clear hK9; try clear K9
  refine D_cF rfl rfl ?_
  refine D_skip (hK8 _ ?_)
  clear hK8; try clear K8
  refine D_seq fun K10 hK10 => ?_
  refine D_seq fun K11 hK11 => ?_
  refine D_le (σ' := mkStI 115 [(4, _), (5, _), (13, _), (15, _), (17, _)] [((17, 0), _)] [] []) (by
    refine Le.mkJ [] [] rfl ?_ ?_ trivial trivial ?_
    · exact ⟨(iV rfl), (iV rfl), (iV rfl), (iF rfl), (iP rfl), trivial⟩
    · exact ⟨(obE rfl rfl rfl), trivial⟩
    · kernel_rfl) ?_
  refine D_region ?_
  refine DL_c (op_mv _ (rfl : _ = AV.fp _ _)) ?_
  refine DL_c (op_eqN _ _ (by kernel_rfl) (.inr ⟨_, _, rfl⟩) rfl) ?_
  refine DL_nil (hK11 _ ?_)
  clear hK11; try clear K11
  refine D_cF rfl rfl ?_
  refine D_skip (hK10 _ ?_)
  clear hK10; try clear K10
  refine D_seq fun K12 hK12 => ?_
  refine D_seq fun K13 hK13 => ?_
  refine D_region ?_
  refine DL_c (op_as _ (rfl : _ = AV.v (.int _ _))) ?_
  refine DL_nil (hK13 _ ?_)
  clear hK13; try clear K13
  refine D_block ?_
  refine D_loopL (α := Nat) (fun i => i ≤ k + 2) 115 [(4, _), (5, _), (13, _), (15, _), (17, _)] [((17, 0), _)] (fun i => [(19, .v (.int .i64 ((i : Int) - 1)))]) (fun i => []) [] [] (fun i => k + 2 - i) 0 ?_ (by
    refine Le.mkJ [] [] rfl ?_ ?_ trivial trivial ?_
    · exact ⟨(iV rfl), (iV rfl), (iV rfl), (iF rfl), (iP rfl), (lvI (by first | rfl | omega | (simp; done) | (simp; omega) | assumption)), trivial⟩
    · exact ⟨(obE rfl rfl rfl), trivial⟩
    · kernel_rfl) ?_
  · first | omega | trivial | exact ⟨by omega, by omega⟩
  intro i hi
  refine D_seq fun K14 hK14 => ?_
  refine D_seq fun K15 hK15 => ?_
  refine D_region ?_
  refine DL_c (op_mv _ (rfl : _ = AV.v (.int _ _))) ?_
  refine DL_c (op_mv _ (rfl : _ = AV.v (.int _ _))) ?_
  first
    | refine DL_c (op_leq _ _ rfl rfl (by assumption)) ?_
    | refine DL_c (op_leq _ _ rfl rfl rfl) ?_
  refine DL_nil (hK15 _ ?_)
  clear hK15; try clear K15
  refine D_splitC rfl (fun hc58 => ?_) (fun hc58 => ?_)
  · skip
    refine D_skip (hK14 _ ?_)
    clear hK14; try clear K14
    refine D_seq fun K16 hK16 => ?_
    refine D_block ?_
    refine D_seq fun K17 hK17 => ?_
    refine D_region ?_
    refine DL_c (op_as _ (rfl : _ = AV.v (.int _ _))) ?_
    refine DL_nil (hK17 _ ?_)
    clear hK17; try clear K17
    refine D_block ?_
    refine D_loopL (α := Nat) (fun j => j ≤ k + 2) 115 [(4, _), (5, _), (13, _), (15, _), (17, _), (19, _)] [((17, 0), _)] (fun j => [(20, .v (.int .i64 ((j : Int) - 1)))]) (fun j => []) [] [] (fun j => k + 2 - j) 0 ?_ (by
      refine Le.mkJ [] [] rfl ?_ ?_ trivial trivial ?_
      · exact ⟨(iV rfl), (iV rfl), (iV rfl), (iF rfl), (iP rfl), (iV rfl), (lvI (by first | rfl | omega | (simp; done) | (simp; omega) | assumption)), trivial⟩
      · exact ⟨(obE rfl rfl rfl), trivial⟩
      · kernel_rfl) ?_
    · first | omega | trivial | exact ⟨by omega, by omega⟩
    intro j hj
    refine D_seq fun K18 hK18 => ?_
    refine D_seq fun K19 hK19 => ?_
    refine D_region ?_
    refine DL_c (op_mv _ (rfl : _ = AV.v (.int _ _))) ?_
    refine DL_c (op_mv _ (rfl : _ = AV.v (.int _ _))) ?_
    first
      | refine DL_c (op_leq _ _ rfl rfl (by assumption)) ?_
      | refine DL_c (op_leq _ _ rfl rfl rfl) ?_
    refine DL_nil (hK19 _ ?_)
    clear hK19; try clear K19
    refine D_splitC rfl (fun hc63 => ?_) (fun hc63 => ?_)
    · skip
      refine D_skip (hK18 _ ?_)
      clear hK18; try clear K18
      refine D_seq fun K20 hK20 => ?_
      refine D_block ?_
      refine D_seq fun K21 hK21 => ?_
      refine D_anyL 20 [66, 67, 68, 69, 70, 71, 72, 73, 74, 75, 76, 77, 78, 79, 80, 81, 82, 83, 84, 85] [] (by kernel_rfl) (by kernel_rfl) rfl (nodupO_iff rfl) (rfl : _ = [_, _, _, _, _, _, _, _, _, _, _, _, _, _, _, _, _, _, _, _]) (rfl : _ = []) ?_
      refine any_c (_, []) (fun τ => op_mv _ (rfl : _ = AV.fp _ _)) ?_
      refine any_n (rfl : _ = [_]) ?_
      refine any_c (_, []) (fun τ => op_mv _ (rfl : _ = AV.v (.int _ _))) ?_
      refine any_n (rfl : _ = [_, _]) ?_
      refine any_c (_, []) (fun τ => op_mv _ (rfl : _ = AV.v (.int _ _))) ?_
      refine any_n (rfl : _ = [_, _, _]) ?_
      refine any_c (_, []) (fun τ => (op_callH inferInstance (by repeat' (first | exact argsLv_nil | refine argsLv_cons ?_ ?_ | exact Lv.v | exact Lv.sl | exact Lv.fp | exact Lv.nil | refine Lv.agg rfl ?_ | refine Lv.fn rfl ?_ rfl ?_ | exact lv_nil | refine lv_cons ?_ ?_ | exact Lv.z0)) (hls ((i : Int) - 1) ((j : Int) - 1)) rfl rfl)) ?_
      refine any_n (rfl : _ = [_, _, _, _]) ?_
      first
        | refine any_c (_, []) (fun τ => op_ldBA _ inferInstance rfl rfl rfl rfl) ?_
        | refine any_c (_, []) (fun τ => op_ldRA _ inferInstance rfl rfl (by first | rfl | assumption) rfl) ?_
        | refine any_c (_, []) (fun τ => op_ldFA _ inferInstance rfl (by first | rfl | assumption) rfl) ?_
      refine any_n (rfl : _ = [_, _, _, _, _]) ?_
      refine any_c (_, []) (fun τ => op_mv _ (rfl : _ = AV.v (.int _ _))) ?_
      refine any_n (rfl : _ = [_, _, _, _, _, _]) ?_
      refine any_c (_, []) (fun τ => op_mv _ (rfl : _ = AV.v (.int _ _))) ?_
      refine any_n (rfl : _ = [_, _, _, _, _, _, _]) ?_
      refine any_c (_, []) (fun τ => (op_callH inferInstance (by repeat' (first | exact argsLv_nil | refine argsLv_cons ?_ ?_ | exact Lv.v | exact Lv.sl | exact Lv.fp | exact Lv.nil | refine Lv.agg rfl ?_ | refine Lv.fn rfl ?_ rfl ?_ | exact lv_nil | refine lv_cons ?_ ?_ | exact Lv.z0)) (hrl ((i : Int) - 1) ((j : Int) - 1)) rfl rfl)) ?_
      refine any_n (rfl : _ = [_, _, _, _, _, _, _, _]) ?_
      refine any_c (_, []) (fun τ => op_neB (r := false) _ _ rfl rfl Try.underlying4 (by simp)) ?_
      refine any_n (rfl : _ = [_, _, _, _, _, _, _, _, _]) ?_
      refine any_c (_, []) (fun τ => op_mv _ (rfl : _ = AV.v (.bool _))) ?_
      refine any_n (rfl : _ = [_, _, _, _, _, _, _, _, _, _]) ?_
      refine any_cy (_, []) rfl (fun τ => rfl) (fun τ => op_mv _ (rfl : _ = AV.fp _ _)) ?_
      refine any_n (rfl : _ = [_, _, _, _, _, _, _, _, _, _, _]) ?_
      refine any_cy (_, []) rfl (fun τ => rfl) (fun τ => op_mv _ (rfl : _ = AV.v (.int _ _))) ?_
      refine any_n (rfl : _ = [_, _, _, _, _, _, _, _, _, _, _, _]) ?_
      refine any_cy (_, []) rfl (fun τ => rfl) (fun τ => op_mv _ (rfl : _ = AV.v (.int _ _))) ?_
      refine any_n (rfl : _ = [_, _, _, _, _, _, _, _, _, _, _, _, _]) ?_
      refine any_cy (_, []) rfl (fun τ => rfl) (fun τ => (op_callH inferInstance (by repeat' (first | exact argsLv_nil | refine argsLv_cons ?_ ?_ | exact Lv.v | exact Lv.sl | exact Lv.fp | exact Lv.nil | refine Lv.agg rfl ?_ | refine Lv.fn rfl ?_ rfl ?_ | exact lv_nil | refine lv_cons ?_ ?_ | exact Lv.z0)) (hcs ((i : Int) - 1) ((j : Int) - 1)) rfl rfl)) ?_
      refine any_n (rfl : _ = [_, _, _, _, _, _, _, _, _, _, _, _, _, _]) ?_
      first
        | refine any_cy (_, []) rfl (fun τ => rfl) (fun τ => op_ldBA _ inferInstance rfl rfl rfl rfl) ?_
        | refine any_cy (_, []) rfl (fun τ => rfl) (fun τ => op_ldRA _ inferInstance rfl rfl (by first | rfl | assumption) rfl) ?_
        | refine any_cy (_, []) rfl (fun τ => rfl) (fun τ => op_ldFA _ inferInstance rfl (by first | rfl | assumption) rfl) ?_
      refine any_n (rfl : _ = [_, _, _, _, _, _, _, _, _, _, _, _, _, _, _]) ?_
      refine any_cy (_, []) rfl (fun τ => rfl) (fun τ => op_mv _ (rfl : _ = AV.v (.int _ _))) ?_
      refine any_n (rfl : _ = [_, _, _, _, _, _, _, _, _, _, _, _, _, _, _, _]) ?_
      refine any_cy (_, []) rfl (fun τ => rfl) (fun τ => op_mv _ (rfl : _ = AV.v (.int _ _))) ?_
      refine any_n (rfl : _ = [_, _, _, _, _, _, _, _, _, _, _, _, _, _, _, _, _]) ?_
      refine any_cy (_, []) rfl (fun τ => rfl) (fun τ => (op_callH inferInstance (by repeat' (first | exact argsLv_nil | refine argsLv_cons ?_ ?_ | exact Lv.v | exact Lv.sl | exact Lv.fp | exact Lv.nil | refine Lv.agg rfl ?_ | refine Lv.fn rfl ?_ rfl ?_ | exact lv_nil | refine lv_cons ?_ ?_ | exact Lv.z0)) (hrc ((i : Int) - 1) ((j : Int) - 1)) rfl rfl)) ?_
      refine any_n (rfl : _ = [_, _, _, _, _, _, _, _, _, _, _, _, _, _, _, _, _, _]) ?_
      refine any_cy (_, []) rfl (fun τ => rfl) (fun τ => op_neB (r := false) _ _ rfl rfl Try.underlying4 (by simp)) ?_
      refine any_n (rfl : _ = [_, _, _, _, _, _, _, _, _, _, _, _, _, _, _, _, _, _, _]) ?_
      refine any_c (_, []) (fun τ => op_pick _ _ _ rfl (rfl : _ = AV.v (.bool _))) ?_
      refine any_n (rfl : _ = [_, _, _, _, _, _, _, _, _, _, _, _, _, _, _, _, _, _, _, _]) ?_
      refine any_end ⟨rfl, ?_⟩
      refine DL_nil (hK21 _ ?_)
      clear hK21; try clear K21
      refine D_cF rfl rfl ?_
      refine D_skip (hK20 _ ?_)
      clear hK20; try clear K20
      refine D_le (σ' := mkStI 115 [(4, _), (5, _), (13, _), (15, _), (17, _), (19, _), (20, _)] [((17, 0), _)] [] []) (by
        refine Le.mkJ [] [] rfl ?_ ?_ trivial trivial ?_
        · exact ⟨(iV rfl), (iV rfl), (iV rfl), (iF rfl), (iP rfl), (iV rfl), (iV rfl), trivial⟩
        · exact ⟨(obE rfl rfl rfl), trivial⟩
        · kernel_rfl) ?_
      refine D_region ?_
      refine DL_c (op_mv _ (rfl : _ = AV.v (.int _ _))) ?_
      first
        | refine DL_c (op_add _ _ rfl rfl (i64w (by omega))) ?_
        | refine DL_c (op_add _ _ rfl rfl rfl) ?_
      refine DL_c (op_as _ (rfl : _ = AV.v (.int _ _))) ?_
      refine DL_nil ?_
      refine ⟨j + 1, ?_, ?_, ?_⟩
      · first | omega | trivial | exact ⟨by omega, by omega⟩
      · skip
        refine Le.mkJ [] [] rfl ?_ ?_ trivial trivial ?_
        · exact ⟨(iV rfl), (iV rfl), (iV rfl), (iF rfl), (iP rfl), (iV rfl), (lvI (by first | rfl | omega | (simp; done) | (simp; omega) | assumption)), trivial⟩
        · exact ⟨(obE rfl rfl rfl), trivial⟩
        · kernel_rfl
      · omega
    · skip
      refine D_exit ?_
      refine id (hK16 _ ?_)
      clear hK16; try clear K16
      refine D_region ?_
      refine DL_c (op_mv _ (rfl : _ = AV.v (.int _ _))) ?_
      first
        | refine DL_c (op_add _ _ rfl rfl (i64w (by omega))) ?_
        | refine DL_c (op_add _ _ rfl rfl rfl) ?_
      refine DL_c (op_as _ (rfl : _ = AV.v (.int _ _))) ?_
      refine DL_nil ?_
      refine ⟨i + 1, ?_, ?_, ?_⟩
      · first | omega | trivial | exact ⟨by omega, by omega⟩
      · skip
        refine Le.mkJ [] [] rfl ?_ ?_ trivial trivial ?_
        · exact ⟨(iV rfl), (iV rfl), (iV rfl), (iF rfl), (iP rfl), (lvI (by first | rfl | omega | (simp; done) | (simp; omega) | assumption)), trivial⟩
        · exact ⟨(obE rfl rfl rfl), trivial⟩
        · kernel_rfl
      · omega
  · skip
    refine D_exit ?_
    refine id (hK12 _ ?_)
    clear hK12; try clear K12
    refine D_seq fun K22 hK22 => ?_
    refine D_anyL 30 [86, 87, 88, 89, 90, 91, 92, 93, 94, 95, 96, 97, 98, 99, 100, 101, 102, 103, 104, 105, 106, 107, 108, 109, 110, 111, 112, 113, 114, 12] [] (by kernel_rfl) (by kernel_rfl) rfl (nodupO_iff rfl) (rfl : _ = [_, _, _, _, _, _, _, _, _, _, _, _, _, _, _, _, _, _, _, _, _, _, _, _, _, _, _, _, _, _]) (rfl : _ = []) ?_
    refine any_c (_, []) (fun τ => op_mv _ (rfl : _ = AV.fp _ _)) ?_
    refine any_n (rfl : _ = [_]) ?_
    refine any_c (_, []) (fun τ => (op_callH inferInstance (by repeat' (first | exact argsLv_nil | refine argsLv_cons ?_ ?_ | exact Lv.v | exact Lv.sl | exact Lv.fp | exact Lv.nil | refine Lv.agg rfl ?_ | refine Lv.fn rfl ?_ rfl ?_ | exact lv_nil | refine lv_cons ?_ ?_ | exact Lv.z0)) (olen_spec k _) rfl rfl)) ?_
    refine any_n (rfl : _ = [_, _]) ?_
    refine any_c (_, []) (fun τ => op_mv _ (rfl : _ = AV.v (.int _ _))) ?_
    refine any_n (rfl : _ = [_, _, _]) ?_
    refine any_c (_, []) (fun τ => op_eql (r := true) _ _ rfl rfl (by simp)) ?_
    refine any_n (rfl : _ = [_, _, _, _]) ?_
    refine any_c (_, []) (fun τ => op_mv _ (rfl : _ = AV.v (.bool _))) ?_
    refine any_n (rfl : _ = [_, _, _, _, _]) ?_
    refine any_cy (_, []) rfl (fun τ => rfl) (fun τ => op_mv _ (rfl : _ = AV.fp _ _)) ?_
    refine any_n (rfl : _ = [_, _, _, _, _, _]) ?_
    refine any_cy (_, []) rfl (fun τ => rfl) (fun τ => op_mv _ (rfl : _ = AV.v (.int _ _))) ?_
    refine any_n (rfl : _ = [_, _, _, _, _, _, _]) ?_
    refine any_cy (_, []) rfl (fun τ => rfl) (fun τ => op_mv _ (rfl : _ = AV.v (.int _ _))) ?_
    refine any_n (rfl : _ = [_, _, _, _, _, _, _, _]) ?_
    refine any_cy (_, []) rfl (fun τ => rfl) (fun τ => (op_callH inferInstance (by repeat' (first | exact argsLv_nil | refine argsLv_cons ?_ ?_ | exact Lv.v | exact Lv.sl | exact Lv.fp | exact Lv.nil | refine Lv.agg rfl ?_ | refine Lv.fn rfl ?_ rfl ?_ | exact lv_nil | refine lv_cons ?_ ?_ | exact Lv.z0)) (hls a b) rfl rfl)) ?_
    refine any_n (rfl : _ = [_, _, _, _, _, _, _, _, _]) ?_
    first
      | refine any_cy (_, []) rfl (fun τ => rfl) (fun τ => op_ldBA _ inferInstance rfl rfl rfl rfl) ?_
      | refine any_cy (_, []) rfl (fun τ => rfl) (fun τ => op_ldRA _ inferInstance rfl rfl (by first | rfl | assumption) rfl) ?_
      | refine any_cy (_, []) rfl (fun τ => rfl) (fun τ => op_ldFA _ inferInstance rfl (by first | rfl | assumption) rfl) ?_
    refine any_n (rfl : _ = [_, _, _, _, _, _, _, _, _, _]) ?_
    refine any_cy (_, []) rfl (fun τ => rfl) (fun τ => op_mv _ (rfl : _ = AV.v (.int _ _))) ?_
    refine any_n (rfl : _ = [_, _, _, _, _, _, _, _, _, _, _]) ?_
    refine any_cy (_, []) rfl (fun τ => rfl) (fun τ => op_mv _ (rfl : _ = AV.v (.int _ _))) ?_
    refine any_n (rfl : _ = [_, _, _, _, _, _, _, _, _, _, _, _]) ?_
    refine any_cy (_, []) rfl (fun τ => rfl) (fun τ => (op_callH inferInstance (by repeat' (first | exact argsLv_nil | refine argsLv_cons ?_ ?_ | exact Lv.v | exact Lv.sl | exact Lv.fp | exact Lv.nil | refine Lv.agg rfl ?_ | refine Lv.fn rfl ?_ rfl ?_ | exact lv_nil | refine lv_cons ?_ ?_ | exact Lv.z0)) (hrl a b) rfl rfl)) ?_
    refine any_n (rfl : _ = [_, _, _, _, _, _, _, _, _, _, _, _, _]) ?_
    refine any_cy (_, []) rfl (fun τ => rfl) (fun τ => op_eqB (r := true) _ _ rfl rfl Try.underlying4 (by simp)) ?_
    refine any_n (rfl : _ = [_, _, _, _, _, _, _, _, _, _, _, _, _, _]) ?_
    refine any_c (_, []) (fun τ => op_pick _ _ _ rfl (rfl : _ = AV.v (.bool _))) ?_
    refine any_n (rfl : _ = [_, _, _, _, _, _, _, _, _, _, _, _, _, _, _]) ?_
    refine any_c (_, []) (fun τ => op_mv _ (rfl : _ = AV.v (.bool _))) ?_
    refine any_n (rfl : _ = [_, _, _, _, _, _, _, _, _, _, _, _, _, _, _, _]) ?_
    refine any_cy (_, []) rfl (fun τ => rfl) (fun τ => op_mv _ (rfl : _ = AV.fp _ _)) ?_
    refine any_n (rfl : _ = [_, _, _, _, _, _, _, _, _, _, _, _, _, _, _, _, _]) ?_
    refine any_cy (_, []) rfl (fun τ => rfl) (fun τ => op_mv _ (rfl : _ = AV.v (.int _ _))) ?_
    refine any_n (rfl : _ = [_, _, _, _, _, _, _, _, _, _, _, _, _, _, _, _, _, _]) ?_
    refine any_cy (_, []) rfl (fun τ => rfl) (fun τ => op_mv _ (rfl : _ = AV.v (.int _ _))) ?_
    refine any_n (rfl : _ = [_, _, _, _, _, _, _, _, _, _, _, _, _, _, _, _, _, _, _]) ?_
    refine any_cy (_, []) rfl (fun τ => rfl) (fun τ => (op_callH inferInstance (by repeat' (first | exact argsLv_nil | refine argsLv_cons ?_ ?_ | exact Lv.v | exact Lv.sl | exact Lv.fp | exact Lv.nil | refine Lv.agg rfl ?_ | refine Lv.fn rfl ?_ rfl ?_ | exact lv_nil | refine lv_cons ?_ ?_ | exact Lv.z0)) (hcs a b) rfl rfl)) ?_
    refine any_n (rfl : _ = [_, _, _, _, _, _, _, _, _, _, _, _, _, _, _, _, _, _, _, _]) ?_
    first
      | refine any_cy (_, []) rfl (fun τ => rfl) (fun τ => op_ldBA _ inferInstance rfl rfl rfl rfl) ?_
      | refine any_cy (_, []) rfl (fun τ => rfl) (fun τ => op_ldRA _ inferInstance rfl rfl (by first | rfl | assumption) rfl) ?_
      | refine any_cy (_, []) rfl (fun τ => rfl) (fun τ => op_ldFA _ inferInstance rfl (by first | rfl | assumption) rfl) ?_
    refine any_n (rfl : _ = [_, _, _, _, _, _, _, _, _, _, _, _, _, _, _, _, _, _, _, _, _]) ?_
    refine any_cy (_, []) rfl (fun τ => rfl) (fun τ => op_mv _ (rfl : _ = AV.v (.int _ _))) ?_
    refine any_n (rfl : _ = [_, _, _, _, _, _, _, _, _, _, _, _, _, _, _, _, _, _, _, _, _, _]) ?_
    refine any_cy (_, []) rfl (fun τ => rfl) (fun τ => op_mv _ (rfl : _ = AV.v (.int _ _))) ?_
    refine any_n (rfl : _ = [_, _, _, _, _, _, _, _, _, _, _, _, _, _, _, _, _, _, _, _, _, _, _]) ?_
    refine any_cy (_, []) rfl (fun τ => rfl) (fun τ => (op_callH inferInstance (by repeat' (first | exact argsLv_nil | refine argsLv_cons ?_ ?_ | exact Lv.v | exact Lv.sl | exact Lv.fp | exact Lv.nil | refine Lv.agg rfl ?_ | refine Lv.fn rfl ?_ rfl ?_ | exact lv_nil | refine lv_cons ?_ ?_ | exact Lv.z0)) (hrc a b) rfl rfl)) ?_
    refine any_n (rfl : _ = [_, _, _, _, _, _, _, _, _, _, _, _, _, _, _, _, _, _, _, _, _, _, _, _]) ?_
    refine any_cy (_, []) rfl (fun τ => rfl) (fun τ => op_eqB (r := true) _ _ rfl rfl Try.underlying4 (by simp)) ?_
    refine any_n (rfl : _ = [_, _, _, _, _, _, _, _, _, _, _, _, _, _, _, _, _, _, _, _, _, _, _, _, _]) ?_
    refine any_c (_, []) (fun τ => op_pick _ _ _ rfl (rfl : _ = AV.v (.bool _))) ?_
    refine any_n (rfl : _ = [_, _, _, _, _, _, _, _, _, _, _, _, _, _, _, _, _, _, _, _, _, _, _, _, _, _]) ?_
    refine any_c (_, []) (fun τ => op_mv _ (rfl : _ = AV.v (.bool _))) ?_
    refine any_n (rfl : _ = [_, _, _, _, _, _, _, _, _, _, _, _, _, _, _, _, _, _, _, _, _, _, _, _, _, _, _]) ?_
    refine any_cy (_, []) rfl (fun τ => rfl) (fun τ => (op_callH inferInstance (by repeat' (first | exact argsLv_nil | refine argsLv_cons ?_ ?_ | exact Lv.v | exact Lv.sl | exact Lv.fp | exact Lv.nil | refine Lv.agg rfl ?_ | refine Lv.fn rfl ?_ rfl ?_ | exact lv_nil | refine lv_cons ?_ ?_ | exact Lv.z0)) (lives_spec) rfl rfl)) ?_
    refine any_n (rfl : _ = [_, _, _, _, _, _, _, _, _, _, _, _, _, _, _, _, _, _, _, _, _, _, _, _, _, _, _, _]) ?_
    refine any_c (_, []) (fun τ => op_pick _ _ _ rfl (rfl : _ = AV.v (.bool _))) ?_
    refine any_n (rfl : _ = [_, _, _, _, _, _, _, _, _, _, _, _, _, _, _, _, _, _, _, _, _, _, _, _, _, _, _, _, _]) ?_
    refine any_c (_, []) (fun τ => op_as _ (rfl : _ = AV.v (.bool _))) ?_
    refine any_n (rfl : _ = [_, _, _, _, _, _, _, _, _, _, _, _, _, _, _, _, _, _, _, _, _, _, _, _, _, _, _, _, _, _]) ?_
    refine any_end ⟨rfl, ?_⟩
    refine DL_nil (hK22 _ ?_)
    clear hK22; try clear K22
    refine D_ret ?_
    refine ret1 (.inr rfl) rfl (.tmp (rfl : _ = AV.v (.bool _))) (Le.out [] [] (lvB ?_) rfl rfl rfl trivial trivial)
    rfl
theorem newl_law (n : Int) (hn : -9223372036854775808 ≤ n ∧ n ≤ 9223372036854775807) (m : Nat) (l : List Int) (hm : l.length = m) (h1 : m ≤ 4611686018427387904) (hr : Rng l) (x y : Int) (use : Bool) (a b : Int) :
    Spec Try.prog 8 (inSt [.v (.int .i64 n), .sl m (isl l), .agg [.v (.int .i64 x), .v (.int .i64 y)], .v (.bool use), .v (.int .i64 a), .v (.int .i64 b)] []) (outSt (.v (.bool true)) []) := by
  obtain ⟨k, hk⟩ := Int.eq_ofNat_of_zero_le (around_lo n 9 (by omega))
  have key : ∀ E : Prs, (∃ c : Int, (c == 0) = false ∧ newR k E = .tup [.v (.pointer none), .v (.int .i64 c)] ∧ rnewR k E = .tup [.agg zeroO, .v (.int .i64 c)]) ∨ (inE k E = true ∧ ¬ Cyc k E) := by
    intro E
    cases hE : inE k E with
    | false => exact .inl ⟨6, rfl, newR_out hE, rnewR_out hE⟩
    | true =>
      by_cases hC : Cyc k E
      · exact .inl ⟨9, rfl, newR_cyc hE hC, rnewR_cyc hE hC⟩
      · exact .inr ⟨rfl, hC⟩
  cases use with
  | false =>
    rcases key (pairs k l) with ⟨c, h0, h4, h5⟩ | ⟨h4, h5⟩
    · exact newl_fbad n hn.1 hn.2 k hk m l hm h1 hr _ rfl x y a b c h0 h4 h5
    · exact newl_fok n hn.1 hn.2 k hk m l hm h1 hr _ rfl x y a b h4 h5
  | true =>
    rcases key (pairs k l ++ [(x, y)]) with ⟨c, h0, h4, h5⟩ | ⟨h4, h5⟩
    · exact newl_tbad n hn.1 hn.2 k hk m l hm h1 hr _ rfl x y a b c h0 h4 h5
    · exact newl_tok n hn.1 hn.2 k hk m l hm h1 hr _ rfl x y a b h4 h5
end Go.Proofs.Ytkbkmngbenohkaa
