/- The laws' helpers: lives, cyclic, made. -/
import Derived.Test.YtkbkmngbenohkaaOwA17
set_option linter.unusedSimpArgs false
set_option linter.unusedVariables false
namespace Go.Proofs.Ytkbkmngbenohkaa
open Go.RowKit

theorem newR_ok {n : Nat} {E : Prs} (hE : inE n E = true) (hC : ¬ Cyc n E) : newR n E = .tup [.fp 0 (ord n (cloW n E)), .v (.int .i64 0)] := by
  unfold newR; rw [if_neg (by rw [hE]; simp), if_neg hC]
theorem rnewR_ok {n : Nat} {E : Prs} (hE : inE n E = true) (hC : ¬ Cyc n E) : rnewR n E = .tup [.agg (rord n (cloM n E)), .v (.int .i64 0)] := by
  unfold rnewR; rw [if_neg (by rw [hE]; simp), if_neg hC]
theorem rnewR_cyc {n : Nat} {E : Prs} (hE : inE n E = true) (hC : Cyc n E) : rnewR n E = .tup [.agg zeroO, .v (.int .i64 9)] := by
  unfold rnewR; rw [if_neg (by rw [hE]; simp), if_pos hC]
theorem pairs_spec (n : Int) (h0 : 0 ≤ n) (h9 : n ≤ 9) (m : Nat) (l : List Int) (hm : l.length = m) (h1 : m ≤ 4611686018427387904) (hr : Rng l) :
    Spec Try.prog 32 (inSt [.v (.int .i64 n), .sl m (isl l)] []) (outSt (.sl (pairs n l).length (psl (pairs n l))) []) :=
  (pairs_own n h0 h9 m l hm h1 hr).frz (by simp; omega)
theorem covers_spec (n : Nat) (ab : List Nat) (hW : Words n ab) : Spec Try.prog 34 (inSt [.fp 0 (ord n ab)] []) (outSt (.sl (covA n (wlt ab) n).length (psl (covA n (wlt ab) n))) []) :=
  (covers_own n ab hW).frz (by simp; omega)
theorem rcovers_spec (n : Nat) (M : List (List Bool)) (hM : Mat n M) : Spec Try.prog 36 (inSt [.agg (rord n M)] []) (outSt (.sl (covA n (mlt M) n).length (psl (covA n (mlt M) n))) []) :=
  (rcovers_own n M hM).frz (by simp; omega)
theorem linear_spec (n : Nat) (ab : List Nat) (hW : Words n ab) (hS : Spo n (wlt ab)) : Spec Try.prog 44 (inSt [.fp 0 (ord n ab)] []) (outSt (.sl n (isl (nl (lin n (wlt ab) n)))) []) :=
  (linear_own n ab hW hS).frz (by simp)
theorem rlinear_spec (n : Nat) (M : List (List Bool)) (hM : Mat n M) (hS : Spo n (mlt M)) : Spec Try.prog 45 (inSt [.agg (rord n M)] []) (outSt (.sl n (isl (nl (lin n (mlt M) n)))) []) :=
  (rlinear_own n M hM hS).frz (by simp)

/-! lives -/
def E4 : Prs := [(2, 0), (0, 1), (2, 1)]
def lt4 : Lt := fun a b => (a == 2 && b == 0) || (a == 0 && b == 1) || (a == 2 && b == 1)
theorem clo4 {a b : Nat} (h : Clo E4 a b) : lt4 a b = true := by
  have key : ∀ {a b : Nat}, ((a : Int), (b : Int)) ∈ E4 → (a = 2 ∧ b = 0) ∨ (a = 0 ∧ b = 1) ∨ (a = 2 ∧ b = 1) := by
    intro a b h
    simp only [E4, List.mem_cons, Prod.mk.injEq, List.not_mem_nil, or_false] at h
    omega
  have : (a = 2 ∧ b = 0) ∨ (a = 0 ∧ b = 1) ∨ (a = 2 ∧ b = 1) := by
    induction h with
    | one h => exact key h
    | more h _ ih => have := key h; omega
  rcases this with ⟨rfl, rfl⟩ | ⟨rfl, rfl⟩ | ⟨rfl, rfl⟩ <;> rfl
theorem cl4 : cl E4 = lt4 := by
  funext a b
  rw [Bool.eq_iff_iff, cl_iff]
  refine ⟨clo4, fun h => .one ?_⟩
  simp only [lt4, Bool.or_eq_true, Bool.and_eq_true, beq_iff_eq] at h
  rcases h with (⟨rfl, rfl⟩ | ⟨rfl, rfl⟩) | ⟨rfl, rfl⟩ <;> decide
theorem in4 : inE 4 E4 = true := by decide
theorem cyc4 : ¬ Cyc 4 E4 := by
  rintro ⟨a, ha, h⟩
  have := clo4 h
  simp only [lt4, Bool.or_eq_true, Bool.and_eq_true, beq_iff_eq] at this
  omega
theorem wlt4 : wlt (cloW 4 E4) = lt4 := (wlt_clo in4).trans cl4
theorem spo4 : Spo 4 (wlt (cloW 4 E4)) := by rw [wlt_clo in4]; exact spo_cl cyc4
theorem new4 : Spec Try.prog 28 (inSt [.v (.int .i64 4), .sl 3 (psl E4)] []) (outSt (.tup [.fp 0 (ord 4 (cloW 4 E4)), .v (.int .i64 0)]) []) := by
  have h := new_spec 4 (by omega) 3 E4 rfl (by omega)
  rw [newR_ok in4 cyc4] at h; exact h
theorem lives4a : Spec Try.prog 34 (inSt [.fp 0 (ord 4 (cloW 4 E4))] []) (outSt (.sl 2 (psl [(0, 1), (2, 0)])) []) := by
  have h := covers_spec 4 _ (cloW_words (n := 4) (E := E4) (by omega))
  rw [wlt4, show covA 4 lt4 4 = [(0, 1), (2, 0)] from by decide] at h; exact h
theorem lives4b : Spec Try.prog 44 (inSt [.fp 0 (ord 4 (cloW 4 E4))] []) (outSt (.sl 4 (isl [2, 0, 1, 3])) []) := by
  have h := linear_spec 4 _ (cloW_words (n := 4) (E := E4) (by omega)) spo4
  rw [wlt4, show nl (lin 4 lt4 4) = [2, 0, 1, 3] from by decide] at h; exact h
theorem lives4c : Spec Try.prog 53 (inSt [.fp 0 (ord 4 (cloW 4 E4)), .v (.int .i64 100)] []) (outSt (.v (.int .i64 4)) []) := by
  have h := ext_spec 4 _ (cloW_words (n := 4) (E := E4) (by omega)) 100 (by omega)
  rw [wlt4, show exts 4 lt4 100 = 4 from by decide] at h; exact h
theorem lives4d : Spec Try.prog 39 (inSt [.fp 0 (ord 4 (cloW 4 E4)), .sl 1 (isl [1])] []) (outSt (.sl 3 (isl [0, 1, 2])) []) := by
  have h := down_spec 4 _ (cloW_words (n := 4) (E := E4) (by omega)) 1 [1] rfl (by omega)
  rw [wlt4, show downA 4 lt4 [1] 4 = [0, 1, 2] from by decide] at h; exact h
theorem lives_spec : Spec Try.prog 29 (inSt [] []) (outSt (.v (.bool true)) []) := by
  refine Spec.ofN Try.func29 rfl Try.ntmps29 rfl ?_
  refine D_seq fun K1 hK1 => ?_
  refine D_region ?_
  refine DL_c (op_as _ (rfl : _ = AV.v (.bool _))) ?_
  refine DL_nil (hK1 _ ?_)
  clear hK1; try clear K1
  refine D_seq fun K2 hK2 => ?_
  refine D_region ?_
  refine DL_c (op_build _ inferInstance rfl (by exact (rfl : _ = some [_, _]))) ?_
  refine DL_c (op_build _ inferInstance rfl (by exact (rfl : _ = some [_, _]))) ?_
  refine DL_c (op_build _ inferInstance rfl (by exact (rfl : _ = some [_, _]))) ?_
  refine DL_c (op_bsF _ _ inferInstance rfl (by rfl) (by simp <;> rfl) (by decide) rfl) ?_
  refine DL_c (op_callH inferInstance (by repeat' (first | exact argsLv_nil | refine argsLv_cons ?_ ?_ | exact Lv.v | exact lvI (by omega) | exact Lv.sl | exact Lv.fp | exact Lv.nil | refine Lv.agg rfl ?_ | refine Lv.fn rfl ?_ rfl ?_ | exact lv_nil | refine lv_cons ?_ ?_ | exact Lv.z0)) (new4) rfl rfl) ?_
  refine DL_c (op_mv _ (rfl : _ = AV.tup _)) ?_
  first
    | refine DL_c (op_ext _ rfl (rfl : _ = some (AV.ptr _ _))) ?_
    | refine DL_c (op_ext _ rfl (rfl : _ = some (AV.fp _ _))) ?_
    | refine DL_c (op_ext _ rfl (rfl : _ = some (AV.v (.pointer _)))) ?_
  refine DL_c (op_ext _ rfl (rfl : _ = some (AV.v (.int _ _)))) ?_
  refine DL_c (op_as _ (rfl : _ = AV.fp _ _)) ?_
  refine DL_c (op_as _ (rfl : _ = AV.v (.int _ _))) ?_
  refine DL_nil (hK2 _ ?_)
  clear hK2; try clear K2
  refine D_seq fun K3 hK3 => ?_
  refine D_seq fun K4 hK4 => ?_
  refine D_region ?_
  refine DL_c (op_mv _ (rfl : _ = AV.fp _ _)) ?_
  refine DL_c (op_eqN _ _ (by kernel_rfl) (.inr ⟨_, _, rfl⟩) rfl) ?_
  refine DL_c (op_mv _ (rfl : _ = AV.v (.bool _))) ?_
  refine DL_cy rfl rfl (op_mv _ (rfl : _ = AV.v (.int _ _))) ?_
  refine DL_cy rfl rfl (op_neq (r := false) _ _ rfl rfl rfl) ?_
  refine DL_c (op_pick _ _ _ rfl (rfl : _ = AV.v (.bool _))) ?_
  refine DL_nil (hK4 _ ?_)
  clear hK4; try clear K4
  refine D_cF rfl rfl ?_
  refine D_skip (hK3 _ ?_)
  clear hK3; try clear K3
  refine D_seq fun K5 hK5 => ?_
  refine D_le (σ' := mkStI 41 [(1, _)] [] [] []) (by
    refine Le.mkJ [] [] rfl ?_ ?_ trivial trivial ?_
    · exact ⟨(iF rfl), trivial⟩
    · exact trivial
    · kernel_rfl) ?_
  refine D_region ?_
  refine DL_c (op_mv _ (rfl : _ = AV.fp _ _)) ?_
  refine DL_c (op_callH inferInstance (by repeat' (first | exact argsLv_nil | refine argsLv_cons ?_ ?_ | exact Lv.v | exact lvI (by omega) | exact Lv.sl | exact Lv.fp | exact Lv.nil | refine Lv.agg rfl ?_ | refine Lv.fn rfl ?_ rfl ?_ | exact lv_nil | refine lv_cons ?_ ?_ | exact Lv.z0)) (lives4a) rfl rfl) ?_
  refine DL_c (op_build _ inferInstance rfl (by exact (rfl : _ = some [_, _]))) ?_
  refine DL_c (op_build _ inferInstance rfl (by exact (rfl : _ = some [_, _]))) ?_
  refine DL_c (op_bsF _ _ inferInstance rfl (by rfl) (by simp <;> rfl) (by decide) rfl) ?_
  refine DL_c (op_callH inferInstance (by repeat' (first | exact argsLv_nil | refine argsLv_cons ?_ ?_ | exact Lv.v | exact lvI (by omega) | exact Lv.sl | exact Lv.fp | exact Lv.nil | refine Lv.agg rfl ?_ | refine Lv.fn rfl ?_ rfl ?_ | exact lv_nil | refine lv_cons ?_ ?_ | exact Lv.z0)) (samepairs_spec 2 2 [(0, 1), (2, 0)] [(0, 1), (2, 0)] rfl rfl (by omega) (by omega)) rfl rfl) ?_
  refine DL_c (op_mv _ (rfl : _ = AV.v (.bool _))) ?_
  refine DL_cy rfl rfl (op_mv _ (rfl : _ = AV.fp _ _)) ?_
  refine DL_cy rfl rfl (op_callH inferInstance (by repeat' (first | exact argsLv_nil | refine argsLv_cons ?_ ?_ | exact Lv.v | exact lvI (by omega) | exact Lv.sl | exact Lv.fp | exact Lv.nil | refine Lv.agg rfl ?_ | refine Lv.fn rfl ?_ rfl ?_ | exact lv_nil | refine lv_cons ?_ ?_ | exact Lv.z0)) (lives4b) rfl rfl) ?_
  refine DL_cy rfl rfl (op_bsF _ _ inferInstance rfl (by rfl) (by simp <;> rfl) (by decide) rfl) ?_
  refine DL_cy rfl rfl (op_callH inferInstance (by repeat' (first | exact argsLv_nil | refine argsLv_cons ?_ ?_ | exact Lv.v | exact lvI (by omega) | exact Lv.sl | exact Lv.fp | exact Lv.nil | refine Lv.agg rfl ?_ | refine Lv.fn rfl ?_ rfl ?_ | exact lv_nil | refine lv_cons ?_ ?_ | exact Lv.z0)) (same_spec 4 4 [2, 0, 1, 3] [2, 0, 1, 3] rfl rfl (by omega) (by omega)) rfl rfl) ?_
  refine DL_c (op_pick _ _ _ rfl (rfl : _ = AV.v (.bool _))) ?_
  refine DL_c (op_mv _ (rfl : _ = AV.v (.bool _))) ?_
  refine DL_cy rfl rfl (op_mv _ (rfl : _ = AV.fp _ _)) ?_
  refine DL_cy rfl rfl (op_callH inferInstance (by repeat' (first | exact argsLv_nil | refine argsLv_cons ?_ ?_ | exact Lv.v | exact lvI (by omega) | exact Lv.sl | exact Lv.fp | exact Lv.nil | refine Lv.agg rfl ?_ | refine Lv.fn rfl ?_ rfl ?_ | exact lv_nil | refine lv_cons ?_ ?_ | exact Lv.z0)) (lives4c) rfl rfl) ?_
  refine DL_cy rfl rfl (op_eql (r := true) _ _ rfl rfl rfl) ?_
  refine DL_c (op_pick _ _ _ rfl (rfl : _ = AV.v (.bool _))) ?_
  refine DL_c (op_mv _ (rfl : _ = AV.v (.bool _))) ?_
  refine DL_cy rfl rfl (op_mv _ (rfl : _ = AV.fp _ _)) ?_
  refine DL_cy rfl rfl (op_bsF _ _ inferInstance rfl (by rfl) (by simp <;> rfl) (by decide) rfl) ?_
  refine DL_cy rfl rfl (op_callH inferInstance (by repeat' (first | exact argsLv_nil | refine argsLv_cons ?_ ?_ | exact Lv.v | exact lvI (by omega) | exact Lv.sl | exact Lv.fp | exact Lv.nil | refine Lv.agg rfl ?_ | refine Lv.fn rfl ?_ rfl ?_ | exact lv_nil | refine lv_cons ?_ ?_ | exact Lv.z0)) (lives4d) rfl rfl) ?_
  refine DL_cy rfl rfl (op_bsF _ _ inferInstance rfl (by rfl) (by simp <;> rfl) (by decide) rfl) ?_
  refine DL_cy rfl rfl (op_callH inferInstance (by repeat' (first | exact argsLv_nil | refine argsLv_cons ?_ ?_ | exact Lv.v | exact lvI (by omega) | exact Lv.sl | exact Lv.fp | exact Lv.nil | refine Lv.agg rfl ?_ | refine Lv.fn rfl ?_ rfl ?_ | exact lv_nil | refine lv_cons ?_ ?_ | exact Lv.z0)) (same_spec 3 3 [0, 1, 2] [0, 1, 2] rfl rfl (by omega) (by omega)) rfl rfl) ?_
  refine DL_c (op_pick _ _ _ rfl (rfl : _ = AV.v (.bool _))) ?_
  refine DL_c (op_as _ (rfl : _ = AV.v (.bool _))) ?_
  refine DL_nil (hK5 _ ?_)
  clear hK5; try clear K5
  refine D_ret ?_
  refine ret1 (.inr rfl) rfl (.tmp (rfl : _ = AV.v (.bool _))) (Le.out [] [] (lvB ?_) rfl rfl rfl trivial trivial)
  rfl

/-! cyclic, made -/
theorem cyclic_yes (n : Int) (h2 : -9223372036854775808 ≤ n) (h3 : n ≤ 9223372036854775807) (k : Nat) (hk : around n 8 = (k : Int)) (m : Nat) (l : List Int) (hm : l.length = m) (h1 : m ≤ 4611686018427387904) (hr : Rng l) (hC : Cyc k (pairs k l)) :
    Spec Try.prog 30 (inSt [.v (.int .i64 n), .sl m (isl l)] []) (outSt (.v (.bool true)) []) := by
  have hk8 := around_hi n 8 (by omega)
  have hp := pairs_spec k (by omega) (by omega) m l hm h1 hr
  have hn := rnew_spec k (by omega) _ (pairs k l) rfl (by have := pairs_len k l; omega)
  rw [rnewR_cyc (pairs_in k l) hC] at hn
  have ha := around_spec n 8 (by omega) (by omega) h2 h3
  rw [hk] at ha
  refine Spec.ofN Try.func30 rfl Try.ntmps30 rfl ?_
  refine D_seq fun K1 hK1 => ?_
  refine D_region ?_
  refine DL_c (op_as _ (rfl : _ = AV.v (.bool _))) ?_
  refine DL_nil (hK1 _ ?_)
  clear hK1; try clear K1
  refine D_seq fun K2 hK2 => ?_
  refine D_region ?_
  refine DL_c (op_mv _ (rfl : _ = AV.v (.int _ _))) ?_
  refine DL_c (op_callH inferInstance (by repeat' (first | exact argsLv_nil | refine argsLv_cons ?_ ?_ | exact Lv.v | exact lvI (by omega) | exact Lv.sl | exact Lv.fp | exact Lv.nil | refine Lv.agg rfl ?_ | refine Lv.fn rfl ?_ rfl ?_ | exact lv_nil | refine lv_cons ?_ ?_ | exact Lv.z0)) (ha) rfl rfl) ?_
  refine DL_c (op_as _ (rfl : _ = AV.v (.int _ _))) ?_
  refine DL_nil (hK2 _ ?_)
  clear hK2; try clear K2
  refine D_seq fun K3 hK3 => ?_
  refine D_region ?_
  refine DL_c (op_mv _ (rfl : _ = AV.v (.int _ _))) ?_
  refine DL_c (op_mv _ (rfl : _ = AV.v (.int _ _))) ?_
  refine DL_c (op_mv _ (rfl : _ = AV.sl _ _)) ?_
  refine DL_c (op_callH inferInstance (by repeat' (first | exact argsLv_nil | refine argsLv_cons ?_ ?_ | exact Lv.v | exact lvI (by omega) | exact Lv.sl | exact Lv.fp | exact Lv.nil | refine Lv.agg rfl ?_ | refine Lv.fn rfl ?_ rfl ?_ | exact lv_nil | refine lv_cons ?_ ?_ | exact Lv.z0)) (hp) rfl rfl) ?_
  refine DL_c (op_callH inferInstance (by repeat' (first | exact argsLv_nil | refine argsLv_cons ?_ ?_ | exact Lv.v | exact lvI (by omega) | exact Lv.sl | exact Lv.fp | exact Lv.nil | refine Lv.agg rfl ?_ | refine Lv.fn rfl ?_ rfl ?_ | exact lv_nil | refine lv_cons ?_ ?_ | exact Lv.z0)) (hn) rfl rfl) ?_
  refine DL_c (op_mv _ (rfl : _ = AV.tup _)) ?_
  first
    | refine DL_c (op_ext _ rfl (rfl : _ = some (AV.agg _))) ?_
    | refine DL_c (op_ext _ rfl (rfl : _ = some (AV.v (.agg _)))) ?_
  refine DL_c (op_ext _ rfl (rfl : _ = some (AV.v (.int _ _)))) ?_
  refine DL_c (op_alloc (6, 0) inferInstance rfl rfl) ?_
  refine DL_c (op_stB _ _ inferInstance rfl rfl rfl rfl (Nat.le_of_ble_eq_true rfl) rfl) ?_
  refine DL_c (op_as _ (rfl : _ = AV.v (.int _ _))) ?_
  refine DL_nil (hK3 _ ?_)
  clear hK3; try clear K3
  refine D_seq fun K4 hK4 => ?_
  refine D_le (σ' := mkStI 20 [(7, _)] [] [] []) (by
    refine Le.mkJ [] [] rfl ?_ ?_ trivial trivial ?_
    · exact ⟨(iV rfl), trivial⟩
    · exact trivial
    · kernel_rfl) ?_
  refine D_region ?_
  refine DL_c (op_mv _ (rfl : _ = AV.v (.int _ _))) ?_
  first
    | refine DL_c (op_neq _ _ rfl rfl (by assumption)) ?_
    | refine DL_c (op_neq _ _ rfl rfl rfl) ?_
  refine DL_c (op_as _ (rfl : _ = AV.v (.bool _))) ?_
  refine DL_nil (hK4 _ ?_)
  clear hK4; try clear K4
  refine D_ret ?_
  refine ret1 (.inr rfl) rfl (.tmp (rfl : _ = AV.v (.bool _))) (Le.out [] [] (lvB ?_) rfl rfl rfl trivial trivial)
  rfl
theorem cyclic_no (n : Int) (h2 : -9223372036854775808 ≤ n) (h3 : n ≤ 9223372036854775807) (k : Nat) (hk : around n 8 = (k : Int)) (m : Nat) (l : List Int) (hm : l.length = m) (h1 : m ≤ 4611686018427387904) (hr : Rng l) (hC : ¬ Cyc k (pairs k l)) :
    Spec Try.prog 30 (inSt [.v (.int .i64 n), .sl m (isl l)] []) (outSt (.v (.bool false)) []) := by
  have hk8 := around_hi n 8 (by omega)
  have hp := pairs_spec k (by omega) (by omega) m l hm h1 hr
  have hn := rnew_spec k (by omega) _ (pairs k l) rfl (by have := pairs_len k l; omega)
  rw [rnewR_ok (pairs_in k l) hC] at hn
  have ha := around_spec n 8 (by omega) (by omega) h2 h3
  rw [hk] at ha
  refine Spec.ofN Try.func30 rfl Try.ntmps30 rfl ?_
  refine D_seq fun K1 hK1 => ?_
  refine D_region ?_
  refine DL_c (op_as _ (rfl : _ = AV.v (.bool _))) ?_
  refine DL_nil (hK1 _ ?_)
  clear hK1; try clear K1
  refine D_seq fun K2 hK2 => ?_
  refine D_region ?_
  refine DL_c (op_mv _ (rfl : _ = AV.v (.int _ _))) ?_
  refine DL_c (op_callH inferInstance (by repeat' (first | exact argsLv_nil | refine argsLv_cons ?_ ?_ | exact Lv.v | exact lvI (by omega) | exact Lv.sl | exact Lv.fp | exact Lv.nil | refine Lv.agg rfl ?_ | refine Lv.fn rfl ?_ rfl ?_ | exact lv_nil | refine lv_cons ?_ ?_ | exact Lv.z0)) (ha) rfl rfl) ?_
  refine DL_c (op_as _ (rfl : _ = AV.v (.int _ _))) ?_
  refine DL_nil (hK2 _ ?_)
  clear hK2; try clear K2
  refine D_seq fun K3 hK3 => ?_
  refine D_region ?_
  refine DL_c (op_mv _ (rfl : _ = AV.v (.int _ _))) ?_
  refine DL_c (op_mv _ (rfl : _ = AV.v (.int _ _))) ?_
  refine DL_c (op_mv _ (rfl : _ = AV.sl _ _)) ?_
  refine DL_c (op_callH inferInstance (by repeat' (first | exact argsLv_nil | refine argsLv_cons ?_ ?_ | exact Lv.v | exact lvI (by omega) | exact Lv.sl | exact Lv.fp | exact Lv.nil | refine Lv.agg rfl ?_ | refine Lv.fn rfl ?_ rfl ?_ | exact lv_nil | refine lv_cons ?_ ?_ | exact Lv.z0)) (hp) rfl rfl) ?_
  refine DL_c (op_callH inferInstance (by repeat' (first | exact argsLv_nil | refine argsLv_cons ?_ ?_ | exact Lv.v | exact lvI (by omega) | exact Lv.sl | exact Lv.fp | exact Lv.nil | refine Lv.agg rfl ?_ | refine Lv.fn rfl ?_ rfl ?_ | exact lv_nil | refine lv_cons ?_ ?_ | exact Lv.z0)) (hn) rfl rfl) ?_
  refine DL_c (op_mv _ (rfl : _ = AV.tup _)) ?_
  first
    | refine DL_c (op_ext _ rfl (rfl : _ = some (AV.agg _))) ?_
    | refine DL_c (op_ext _ rfl (rfl : _ = some (AV.v (.agg _)))) ?_
  refine DL_c (op_ext _ rfl (rfl : _ = some (AV.v (.int _ _)))) ?_
  refine DL_c (op_alloc (6, 0) inferInstance rfl rfl) ?_
  refine DL_c (op_stB _ _ inferInstance rfl rfl rfl rfl (Nat.le_of_ble_eq_true rfl) rfl) ?_
  refine DL_c (op_as _ (rfl : _ = AV.v (.int _ _))) ?_
  refine DL_nil (hK3 _ ?_)
  clear hK3; try clear K3
  refine D_seq fun K4 hK4 => ?_
  refine D_le (σ' := mkStI 20 [(7, _)] [] [] []) (by
    refine Le.mkJ [] [] rfl ?_ ?_ trivial trivial ?_
    · exact ⟨(iV rfl), trivial⟩
    · exact trivial
    · kernel_rfl) ?_
  refine D_region ?_
  refine DL_c (op_mv _ (rfl : _ = AV.v (.int _ _))) ?_
  first
    | refine DL_c (op_neq _ _ rfl rfl (by assumption)) ?_
    | refine DL_c (op_neq _ _ rfl rfl rfl) ?_
  refine DL_c (op_as _ (rfl : _ = AV.v (.bool _))) ?_
  refine DL_nil (hK4 _ ?_)
  clear hK4; try clear K4
  refine D_ret ?_
  refine ret1 (.inr rfl) rfl (.tmp (rfl : _ = AV.v (.bool _))) (Le.out [] [] (lvB ?_) rfl rfl rfl trivial trivial)
  rfl
theorem made_spec (n : Int) (h2 : -9223372036854775808 ≤ n) (h3 : n ≤ 9223372036854775807) (k : Nat) (hk : around n 8 = (k : Int)) (m : Nat) (l : List Int) (hm : l.length = m) (h1 : m ≤ 4611686018427387904) (hr : Rng l) (hC : ¬ Cyc k (pairs k l)) :
    Spec Try.prog 31 (inSt [.v (.int .i64 n), .sl m (isl l)] []) (outSt (.tup [.fp 0 (ord k (cloW k (pairs k l))), .agg (rord k (cloM k (pairs k l)))]) []) := by
  have hk8 := around_hi n 8 (by omega)
  have hp := pairs_spec k (by omega) (by omega) m l hm h1 hr
  have hpl := pairs_len k l
  have hn := rnew_spec k (by omega) _ (pairs k l) rfl (by omega)
  rw [rnewR_ok (pairs_in k l) hC] at hn
  have ho := new_spec k (by omega) _ (pairs k l) rfl (by omega)
  rw [newR_ok (pairs_in k l) hC] at ho
  have ha := around_spec n 8 (by omega) (by omega) h2 h3
  rw [hk] at ha
  refine Spec.ofN Try.func31 rfl Try.ntmps31 rfl ?_
  refine D_seq fun K1 hK1 => ?_
  refine D_region ?_
  refine DL_c (op_as _ (rfl : _ = AV.v _)) ?_
  refine DL_c (op_alloc (5, 0) inferInstance rfl rfl) ?_
  refine DL_nil (hK1 _ ?_)
  clear hK1; try clear K1
  refine D_seq fun K2 hK2 => ?_
  refine D_region ?_
  refine DL_c (op_mv _ (rfl : _ = AV.v (.int _ _))) ?_
  refine DL_c (op_callH inferInstance (by repeat' (first | exact argsLv_nil | refine argsLv_cons ?_ ?_ | exact Lv.v | exact lvI (by omega) | exact Lv.sl | exact Lv.fp | exact Lv.nil | refine Lv.agg rfl ?_ | refine Lv.fn rfl ?_ rfl ?_ | exact lv_nil | refine lv_cons ?_ ?_ | exact Lv.z0)) (ha) rfl rfl) ?_
  refine DL_c (op_as _ (rfl : _ = AV.v (.int _ _))) ?_
  refine DL_nil (hK2 _ ?_)
  clear hK2; try clear K2
  refine D_seq fun K3 hK3 => ?_
  refine D_region ?_
  refine DL_c (op_mv _ (rfl : _ = AV.v (.int _ _))) ?_
  refine DL_c (op_mv _ (rfl : _ = AV.sl _ _)) ?_
  refine DL_c (op_callH inferInstance (by repeat' (first | exact argsLv_nil | refine argsLv_cons ?_ ?_ | exact Lv.v | exact lvI (by omega) | exact Lv.sl | exact Lv.fp | exact Lv.nil | refine Lv.agg rfl ?_ | refine Lv.fn rfl ?_ rfl ?_ | exact lv_nil | refine lv_cons ?_ ?_ | exact Lv.z0)) (hp) rfl rfl) ?_
  first
    | refine DL_c (op_as _ (rfl : _ = AV.sl _ _)) ?_
    | refine DL_c (op_as _ (rfl : _ = AV.ref _ _ _)) ?_
    | refine DL_c (op_as _ (rfl : _ = AV.v (.slice _ _ _))) ?_
    | refine DL_c (op_as _ (rfl : _ = AV.z)) ?_
  refine DL_nil (hK3 _ ?_)
  clear hK3; try clear K3
  refine D_seq fun K4 hK4 => ?_
  refine D_region ?_
  refine DL_c (op_mv _ (rfl : _ = AV.v (.int _ _))) ?_
  first
    | refine DL_c (op_mv _ (rfl : _ = AV.sl _ _)) ?_
    | refine DL_c (op_mv _ (rfl : _ = AV.ref _ _ _)) ?_
    | refine DL_c (op_mv _ (rfl : _ = AV.v (.slice _ _ _))) ?_
    | refine DL_c (op_mv _ (rfl : _ = AV.z)) ?_
  refine DL_c (op_callH inferInstance (by repeat' (first | exact argsLv_nil | refine argsLv_cons ?_ ?_ | exact Lv.v | exact lvI (by omega) | exact Lv.sl | exact Lv.fp | exact Lv.nil | refine Lv.agg rfl ?_ | refine Lv.fn rfl ?_ rfl ?_ | exact lv_nil | refine lv_cons ?_ ?_ | exact Lv.z0)) (hn) rfl rfl) ?_
  refine DL_c (op_mv _ (rfl : _ = AV.tup _)) ?_
  first
    | refine DL_c (op_ext _ rfl (rfl : _ = some (AV.agg _))) ?_
    | refine DL_c (op_ext _ rfl (rfl : _ = some (AV.v (.agg _)))) ?_
  refine DL_c (op_ext _ rfl (rfl : _ = some (AV.v (.int _ _)))) ?_
  refine DL_c (op_alloc (8, 0) inferInstance rfl rfl) ?_
  refine DL_c (op_stB _ _ inferInstance rfl rfl rfl rfl (Nat.le_of_ble_eq_true rfl) rfl) ?_
  refine DL_c (op_as _ (rfl : _ = AV.v (.int _ _))) ?_
  refine DL_nil (hK4 _ ?_)
  clear hK4; try clear K4
  refine D_seq fun K5 hK5 => ?_
  refine D_le (σ' := mkStI 38 [(5, _), (6, _), (7, _), (8, _), (9, _)] [((5, 0), _), ((8, 0), _)] [] []) (by
    refine Le.mkJ [] [] rfl ?_ ?_ trivial trivial ?_
    · exact ⟨(iP rfl), (iV rfl), (by first | exact iS rfl | exact iR rfl | exact iV rfl | exact iZ rfl | exact iD rfl), (iP rfl), (iV rfl), trivial⟩
    · exact ⟨(obE rfl rfl rfl), (obE rfl rfl rfl), trivial⟩
    · kernel_rfl) ?_
  refine D_region ?_
  refine DL_c (op_mv _ (rfl : _ = AV.v (.int _ _))) ?_
  first
    | refine DL_c (op_mv _ (rfl : _ = AV.sl _ _)) ?_
    | refine DL_c (op_mv _ (rfl : _ = AV.ref _ _ _)) ?_
    | refine DL_c (op_mv _ (rfl : _ = AV.v (.slice _ _ _))) ?_
    | refine DL_c (op_mv _ (rfl : _ = AV.z)) ?_
  refine DL_c (op_callH inferInstance (by repeat' (first | exact argsLv_nil | refine argsLv_cons ?_ ?_ | exact Lv.v | exact lvI (by omega) | exact Lv.sl | exact Lv.fp | exact Lv.nil | refine Lv.agg rfl ?_ | refine Lv.fn rfl ?_ rfl ?_ | exact lv_nil | refine lv_cons ?_ ?_ | exact Lv.z0)) (ho) rfl rfl) ?_
  refine DL_c (op_mv _ (rfl : _ = AV.tup _)) ?_
  first
    | refine DL_c (op_ext _ rfl (rfl : _ = some (AV.ptr _ _))) ?_
    | refine DL_c (op_ext _ rfl (rfl : _ = some (AV.fp _ _))) ?_
    | refine DL_c (op_ext _ rfl (rfl : _ = some (AV.v (.pointer _)))) ?_
  refine DL_c (op_ext _ rfl (rfl : _ = some (AV.v (.int _ _)))) ?_
  refine DL_c (op_as _ (rfl : _ = AV.fp _ _)) ?_
  refine DL_c (op_as _ (rfl : _ = AV.v (.int _ _))) ?_
  refine DL_nil (hK5 _ ?_)
  clear hK5; try clear K5
  refine D_seq fun K6 hK6 => ?_
  refine D_seq fun K7 hK7 => ?_
  refine D_region ?_
  refine DL_c (op_mv _ (rfl : _ = AV.v (.int _ _))) ?_
  refine DL_c (op_neq (r := false) _ _ rfl rfl rfl) ?_
  refine DL_c (op_mv _ (rfl : _ = AV.v (.bool _))) ?_
  refine DL_cy rfl rfl (op_mv _ (rfl : _ = AV.v (.int _ _))) ?_
  refine DL_cy rfl rfl (op_neq (r := false) _ _ rfl rfl rfl) ?_
  refine DL_c (op_pick _ _ _ rfl (rfl : _ = AV.v (.bool _))) ?_
  refine DL_nil (hK7 _ ?_)
  clear hK7; try clear K7
  refine D_cF rfl rfl ?_
  refine D_skip (hK6 _ ?_)
  clear hK6; try clear K6
  refine D_seq fun K8 hK8 => ?_
  refine D_le (σ' := mkStI 38 [(5, _), (8, _), (10, _)] [((5, 0), _), ((8, 0), _)] [] []) (by
    refine Le.mkJ [] [] rfl ?_ ?_ trivial trivial ?_
    · exact ⟨(iP rfl), (iP rfl), (iF rfl), trivial⟩
    · exact ⟨(obE rfl rfl rfl), (obE rfl rfl rfl), trivial⟩
    · kernel_rfl) ?_
  refine D_anyL 3 [36, 37, 4] [] (by kernel_rfl) (by kernel_rfl) rfl (nodupO_iff rfl) (rfl : _ = [_, _, _]) (rfl : _ = [_]) ?_
  refine any_c (_, []) (fun τ => op_mv _ (rfl : _ = AV.fp _ _)) ?_
  refine any_n (rfl : _ = [_]) ?_
  first
    | refine any_c (_, []) (fun τ => op_ldBA _ inferInstance rfl rfl rfl rfl) ?_
    | refine any_c (_, []) (fun τ => op_ldRA _ inferInstance rfl rfl (by first | rfl | assumption) rfl) ?_
    | refine any_c (_, []) (fun τ => op_ldFA _ inferInstance rfl (by first | rfl | assumption) rfl) ?_
  refine any_n (rfl : _ = [_, _]) ?_
  refine any_c (_, []) (fun τ => op_as _ (rfl : _ = AV.fp _ _)) ?_
  refine any_n (rfl : _ = [_, _, _]) ?_
  refine any_end ⟨rfl, ?_⟩
  refine DL_c (op_stB _ _ inferInstance rfl rfl rfl rfl (Nat.le_of_ble_eq_true rfl) rfl) ?_
  refine DL_nil (hK8 _ ?_)
  clear hK8; try clear K8
  refine D_ret ?_
  exact ret2 (.inr rfl) rfl (.tmp (rfl : _ = AV.fp _ _)) (.cellA inferInstance rfl rfl rfl) (Le.out [] [] (.tup rfl (lv_cons .fp (lv_cons (.agg rfl (lv_cons .v (lv_cons .sl lv_nil))) lv_nil))) rfl rfl rfl trivial trivial)
end Go.Proofs.Ytkbkmngbenohkaa
