/- The queue's methods; container/heap's up, down, Push, Pop. By the machine. -/
import Derived.Test.YtkbkmngbenohkaaVoG1
set_option linter.unusedSimpArgs false
set_option linter.unusedVariables false
namespace Go.Proofs.Ytkbkmngbenohkaa
open Go.RowKit

instance mQPush : MthP Try.prog 116 "Push" 178 := ⟨fun _ _ _ => by kernel_rfl⟩
instance mQPop : MthP Try.prog 116 "Pop" 177 := ⟨fun _ _ _ => by kernel_rfl⟩
instance mQLen : MthP Try.prog 116 "Len" 93 := ⟨fun _ _ _ => by kernel_rfl⟩
instance mQLess : MthV Try.prog 116 "Less" 176 117 := .of (by kernel_rfl)
instance mQSwap : MthV Try.prog 116 "Swap" 179 117 := .of (by kernel_rfl)
instance cQPush : Cbl Try.prog 178 := ⟨fun _ _ => by kernel_rfl⟩
instance cQPop : Cbl Try.prog 177 := ⟨fun _ _ => by kernel_rfl⟩
instance cQLess : Cbl Try.prog 176 := ⟨fun _ _ => by kernel_rfl⟩
instance cQSwap : Cbl Try.prog 179 := ⟨fun _ _ => by kernel_rfl⟩
/-- The queue as two objects. -/
abbrev qO (n : Nat) (L : List Int) : List (Oid × Cells) := [((0, 9), .box 117 [.ref (1, 9) 0 n]), ((1, 9), .row 3 1 (isl L))]
theorem qlen_spec (n : Nat) (L : List Int) : Spec Try.prog 93 (inStI [.ptr (0, 9) 0] (qO n L)) (outStI (.v (.int .i64 (n : Int))) (qO n L) [(0, 9), (1, 9)] [(0, 9), (1, 9)]) := by
  refine Spec.ofNI Try.func93 rfl Try.ntmps93 rfl ?_
  refine D_seq fun K1 hK1 => ?_
  refine D_region ?_
  refine DL_c (op_as _ (rfl : _ = AV.v (.int _ _))) ?_
  refine DL_nil (hK1 _ ?_)
  clear hK1; try clear K1
  refine D_seq fun K2 hK2 => ?_
  refine D_region ?_
  refine DL_c (op_mv _ (rfl : _ = AV.ptr _ _)) ?_
  refine DL_c (op_nilp _ rfl rfl) ?_
  first
    | refine DL_c (op_ldB _ inferInstance rfl rfl (rfl : _ = some (AV.ref _ _ _))) ?_
    | refine DL_c (op_ldR _ inferInstance rfl rfl (by first | rfl | exact isl_get _ _ (by omega) | exact bsl_get _ _ (by omega) | assumption | exact isl_get _ _ (by omega)) rfl) ?_
  first
    | refine DL_c (op_lenR _ inferInstance rfl rfl) ?_
    | refine DL_c (op_lenB _ inferInstance rfl rfl) ?_
  refine DL_c (op_as _ (rfl : _ = AV.v (.int _ _))) ?_
  refine DL_nil (hK2 _ ?_)
  clear hK2; try clear K2
  refine D_ret ?_
  exact ret1 (.inr rfl) rfl (.tmp (rfl : _ = AV.v (.int _ _))) (Le.outI [] [] (lvI rfl) rfl rfl rfl trivial ⟨⟨rfl, ⟨_, rfl, lvO_id _⟩, rfl⟩, ⟨rfl, ⟨_, rfl, lvO_id _⟩, rfl⟩, trivial⟩ ⟨rfl, rfl, trivial⟩ rfl)
theorem qless_spec (n : Nat) (L : List Int) (hL : L.length = n) (h1 : n ≤ 4611686018427387904) (i j : Nat) (hi : i < n) (hj : j < n) :
    Spec Try.prog 176 (inSt [.sl n (isl L), .v (.int .i64 (i : Int)), .v (.int .i64 (j : Int))] []) (outSt (.v (.bool (decide (L.getD i 0 < L.getD j 0)))) []) := by
  refine Spec.ofN Try.func176 rfl Try.ntmps176 rfl ?_
  refine D_seq fun K1 hK1 => ?_
  refine D_region ?_
  refine DL_c (op_as _ (rfl : _ = AV.v (.bool _))) ?_
  refine DL_nil (hK1 _ ?_)
  clear hK1; try clear K1
  refine D_seq fun K2 hK2 => ?_
  refine D_anyL 10 [7, 8, 9, 10, 11, 12, 13, 14, 15, 6] [] (by kernel_rfl) (by kernel_rfl) rfl (nodupO_iff rfl) (rfl : _ = [_, _, _, _, _, _, _, _, _, _]) (rfl : _ = []) ?_
  refine any_c (_, []) (fun τ => op_mv _ (rfl : _ = AV.sl _ _)) ?_
  refine any_n (rfl : _ = [_]) ?_
  refine any_c (_, []) (fun τ => op_mv _ (rfl : _ = AV.v (.int _ _))) ?_
  refine any_n (rfl : _ = [_, _]) ?_
  first
    | refine any_c (_, []) (fun τ => op_ixS _ _ inferInstance rfl rfl _ rfl (by omega) (by first | assumption | decide | (simp only [isl_len, bsl_len, psl_len, List.length_map]; omega) | (simp; done) | (simp; omega) | (simp [isl, bsl]; omega)) (by first | exact Nat.mul_one _ | rfl | omega)) ?_
    | refine any_c (_, []) (fun τ => op_ixS _ _ inferInstance rfl rfl (Int.toNat _) (Int.toNat_of_nonneg (by omega)).symm (by omega) (by first | assumption | decide | (simp only [isl_len, bsl_len, psl_len, List.length_map]; omega) | (simp; done) | (simp; omega) | (simp [isl, bsl]; omega)) (by first | exact Nat.mul_one _ | rfl | omega)) ?_
  refine any_n (rfl : _ = [_, _, _]) ?_
  refine any_c (_, []) (fun τ => op_ldF _ inferInstance rfl (by first | rfl | exact isl_get _ _ (by omega) | exact bsl_get _ _ (by omega) | assumption | exact isl_get _ _ (by omega)) rfl) ?_
  refine any_n (rfl : _ = [_, _, _, _]) ?_
  refine any_c (_, []) (fun τ => op_mv _ (rfl : _ = AV.sl _ _)) ?_
  refine any_n (rfl : _ = [_, _, _, _, _]) ?_
  refine any_c (_, []) (fun τ => op_mv _ (rfl : _ = AV.v (.int _ _))) ?_
  refine any_n (rfl : _ = [_, _, _, _, _, _]) ?_
  first
    | refine any_c (_, []) (fun τ => op_ixS _ _ inferInstance rfl rfl _ rfl (by omega) (by first | assumption | decide | (simp only [isl_len, bsl_len, psl_len, List.length_map]; omega) | (simp; done) | (simp; omega) | (simp [isl, bsl]; omega)) (by first | exact Nat.mul_one _ | rfl | omega)) ?_
    | refine any_c (_, []) (fun τ => op_ixS _ _ inferInstance rfl rfl (Int.toNat _) (Int.toNat_of_nonneg (by omega)).symm (by omega) (by first | assumption | decide | (simp only [isl_len, bsl_len, psl_len, List.length_map]; omega) | (simp; done) | (simp; omega) | (simp [isl, bsl]; omega)) (by first | exact Nat.mul_one _ | rfl | omega)) ?_
  refine any_n (rfl : _ = [_, _, _, _, _, _, _]) ?_
  refine any_c (_, []) (fun τ => op_ldF _ inferInstance rfl (by first | rfl | exact isl_get _ _ (by omega) | exact bsl_get _ _ (by omega) | assumption | exact isl_get _ _ (by omega)) rfl) ?_
  refine any_n (rfl : _ = [_, _, _, _, _, _, _, _]) ?_
  first
    | refine any_c (_, []) (fun τ => op_lss _ _ rfl rfl (by assumption)) ?_
    | refine any_c (_, []) (fun τ => op_lss _ _ rfl rfl rfl) ?_
  refine any_n (rfl : _ = [_, _, _, _, _, _, _, _, _]) ?_
  refine any_c (_, []) (fun τ => op_as _ (rfl : _ = AV.v (.bool _))) ?_
  refine any_n (rfl : _ = [_, _, _, _, _, _, _, _, _, _]) ?_
  refine any_end ⟨rfl, ?_⟩
  refine DL_nil (hK2 _ ?_)
  clear hK2; try clear K2
  refine D_ret ?_
  refine ret1 (.inr rfl) rfl (.tmp (rfl : _ = AV.v (.bool _))) (Le.out [] [] (lvB ?_) rfl rfl rfl trivial trivial)
  rfl
theorem qswap_spec (n : Nat) (L : List Int) (hL : L.length = n) (h1 : n ≤ 4611686018427387904) (i j : Nat) (hi : i < n) (hj : j < n) :
    Spec Try.prog 179 (inStI [.ref (0, 9) 0 n, .v (.int .i64 (i : Int)), .v (.int .i64 (j : Int))] [((0, 9), .row 3 1 (isl L))]) (outStI (.tup []) [((0, 9), .row 3 1 (isl (sw L i j)))] [(0, 9)] [(0, 9)]) := by
  refine Spec.ofNI Try.func179 rfl Try.ntmps179 rfl ?_
  refine D_anyA 15 [6, 7, 8, 9, 10, 11, 12, 13, 14, 15, 16, 17, 18, 19] [(0, 9)] [[(0, 9)], [(0, 9)], [], [], [(0, 9)], [(0, 9)], [(0, 9)], [(0, 9)], [], [], [(0, 9)], [(0, 9)], [(0, 9)], [], []] (by kernel_rfl) (by kernel_rfl) rfl (nodupO_iff rfl) (rfl : _ = [_, _, _, _, _, _, _, _, _, _, _, _, _, _, _]) (rfl : _ = [_]) ?_
  refine any_c (_, []) (fun τ => op_mv _ (rfl : _ = AV.ref _ _ _)) ?_
  refine any_n (rfl : _ = [_]) ?_
  refine any_c (_, []) (fun τ => op_mv _ (rfl : _ = AV.v (.int _ _))) ?_
  refine any_n (rfl : _ = [_, _]) ?_
  refine any_c (_, []) (fun τ => op_mv _ (rfl : _ = AV.ref _ _ _)) ?_
  refine any_n (rfl : _ = [_, _, _]) ?_
  refine any_c (_, []) (fun τ => op_mv _ (rfl : _ = AV.v (.int _ _))) ?_
  refine any_n (rfl : _ = [_, _, _, _]) ?_
  refine any_c (_, []) (fun τ => op_mv _ (rfl : _ = AV.ref _ _ _)) ?_
  refine any_n (rfl : _ = [_, _, _, _, _]) ?_
  refine any_c (_, []) (fun τ => op_mv _ (rfl : _ = AV.v (.int _ _))) ?_
  refine any_n (rfl : _ = [_, _, _, _, _, _]) ?_
  first
    | refine any_c (_, []) (fun τ => op_ixR _ _ inferInstance rfl rfl rfl _ rfl (by omega) (by first | exact (Nat.zero_add _).trans (Nat.mul_one _) | exact Nat.zero_add _ | rfl | omega)) ?_
    | refine any_c (_, []) (fun τ => op_ixR _ _ inferInstance rfl rfl rfl (Int.toNat _) (Int.toNat_of_nonneg (by omega)).symm (by omega) (by first | exact (Nat.zero_add _).trans (Nat.mul_one _) | exact Nat.zero_add _ | rfl | omega)) ?_
  refine any_n (rfl : _ = [_, _, _, _, _, _, _]) ?_
  first
    | refine any_c (_, []) (fun τ => op_ldR _ inferInstance rfl rfl (by first | rfl | exact isl_get _ _ (by omega) | exact bsl_get _ _ (by omega) | assumption | exact isl_get _ _ (by omega)) rfl) ?_
    | refine any_c (_, []) (fun τ => op_ldB _ inferInstance rfl rfl (rfl : _ = some (AV.v (.int _ _)))) ?_
  refine any_n (rfl : _ = [_, _, _, _, _, _, _, _]) ?_
  refine any_c (_, []) (fun τ => op_mv _ (rfl : _ = AV.ref _ _ _)) ?_
  refine any_n (rfl : _ = [_, _, _, _, _, _, _, _, _]) ?_
  refine any_c (_, []) (fun τ => op_mv _ (rfl : _ = AV.v (.int _ _))) ?_
  refine any_n (rfl : _ = [_, _, _, _, _, _, _, _, _, _]) ?_
  first
    | refine any_c (_, []) (fun τ => op_ixR _ _ inferInstance rfl rfl rfl _ rfl (by omega) (by first | exact (Nat.zero_add _).trans (Nat.mul_one _) | exact Nat.zero_add _ | rfl | omega)) ?_
    | refine any_c (_, []) (fun τ => op_ixR _ _ inferInstance rfl rfl rfl (Int.toNat _) (Int.toNat_of_nonneg (by omega)).symm (by omega) (by first | exact (Nat.zero_add _).trans (Nat.mul_one _) | exact Nat.zero_add _ | rfl | omega)) ?_
  refine any_n (rfl : _ = [_, _, _, _, _, _, _, _, _, _, _]) ?_
  first
    | refine any_c (_, []) (fun τ => op_ldR _ inferInstance rfl rfl (by first | rfl | exact isl_get _ _ (by omega) | exact bsl_get _ _ (by omega) | assumption | exact isl_get _ _ (by omega)) rfl) ?_
    | refine any_c (_, []) (fun τ => op_ldB _ inferInstance rfl rfl (rfl : _ = some (AV.v (.int _ _)))) ?_
  refine any_n (rfl : _ = [_, _, _, _, _, _, _, _, _, _, _, _]) ?_
  first
    | refine any_c (_, []) (fun τ => op_ixR _ _ inferInstance rfl rfl rfl _ rfl (by omega) (by first | exact (Nat.zero_add _).trans (Nat.mul_one _) | exact Nat.zero_add _ | rfl | omega)) ?_
    | refine any_c (_, []) (fun τ => op_ixR _ _ inferInstance rfl rfl rfl (Int.toNat _) (Int.toNat_of_nonneg (by omega)).symm (by omega) (by first | exact (Nat.zero_add _).trans (Nat.mul_one _) | exact Nat.zero_add _ | rfl | omega)) ?_
  refine any_n (rfl : _ = [_, _, _, _, _, _, _, _, _, _, _, _, _]) ?_
  refine any_c (_, [((0, 9), _)]) (fun τ => op_stR _ _ inferInstance rfl (mix_own rfl (by exact inO_head) rfl) rfl rfl rfl (by simp; omega) (isl_put _ _ _ (by omega))) ?_
  refine any_n (rfl : _ = [_, _, _, _, _, _, _, _, _, _, _, _, _, _]) ?_
  first
    | refine any_c (_, []) (fun τ => op_ixR _ _ inferInstance rfl rfl rfl _ rfl (by omega) (by first | exact (Nat.zero_add _).trans (Nat.mul_one _) | exact Nat.zero_add _ | rfl | omega)) ?_
    | refine any_c (_, []) (fun τ => op_ixR _ _ inferInstance rfl rfl rfl (Int.toNat _) (Int.toNat_of_nonneg (by omega)).symm (by omega) (by first | exact (Nat.zero_add _).trans (Nat.mul_one _) | exact Nat.zero_add _ | rfl | omega)) ?_
  refine any_n (rfl : _ = [_, _, _, _, _, _, _, _, _, _, _, _, _, _, _]) ?_
  refine any_end ⟨⟨rfl, by kernel_rfl⟩, ?_⟩
  refine DL_c (op_stR _ _ inferInstance rfl rfl rfl rfl rfl (by simp; omega) (isl_put _ _ _ (by simp; omega))) ?_
  refine DL_nil ?_
  exact ret0 (.inl rfl) rfl (Le.outI [] [] (.tup rfl lv_nil) rfl rfl rfl trivial ⟨⟨rfl, ⟨_, rfl, .rowE rfl⟩, rfl⟩, trivial⟩ ⟨rfl, trivial⟩ rfl)
theorem qpush_spec (n : Nat) (L : List Int) (hL : L.length = n) (h1 : n ≤ 1000000) (x : Int) :
    Spec Try.prog 178 (inStI [.ptr (0, 9) 0, .ifc 3 (.v (.int .i64 x))] (qO n L)) (outStI (.tup []) [((0, 9), .box 117 [.ref (1, 8) 0 (n + 1)]), ((1, 8), .row 3 1 (isl (L ++ [x])))] [(0, 9), (1, 8)] [(0, 9)]) := by
  refine Spec.ofNI Try.func178 rfl Try.ntmps178 rfl ?_
  refine D_le (Le.incT (11, 0) rfl) ?_
  refine D_anyL 9 [4, 5, 6, 7, 8, 9, 10, 11, 12] [(1, 9), (11, 0)] (by kernel_rfl) (by kernel_rfl) rfl (nodupO_iff rfl) (rfl : _ = [_, _, _, _, _, _, _, _, _]) (rfl : _ = [_]) ?_
  refine any_c (_, []) (fun τ => op_mv _ (rfl : _ = AV.ptr _ _)) ?_
  refine any_n (rfl : _ = [_]) ?_
  refine any_c (_, []) (fun τ => op_mv _ (rfl : _ = AV.ptr _ _)) ?_
  refine any_n (rfl : _ = [_, _]) ?_
  refine any_c (_, []) (fun τ => op_nilp _ rfl rfl) ?_
  refine any_n (rfl : _ = [_, _, _]) ?_
  first
    | refine any_c (_, []) (fun τ => op_ldB _ inferInstance rfl rfl (rfl : _ = some (AV.ref _ _ _))) ?_
    | refine any_c (_, []) (fun τ => op_ldR _ inferInstance rfl rfl (by first | rfl | exact isl_get _ _ (by omega) | exact bsl_get _ _ (by omega) | assumption | exact isl_get _ _ (by omega)) rfl) ?_
  refine any_n (rfl : _ = [_, _, _, _]) ?_
  refine any_c (_, []) (fun τ => op_mv _ (rfl : _ = AV.ifc _ _)) ?_
  refine any_n (rfl : _ = [_, _, _, _, _]) ?_
  refine any_c (_, []) (fun τ => op_tA _ Try.underlying3 rfl (rfl : _ = AV.ifc _ (AV.v _))) ?_
  refine any_n (rfl : _ = [_, _, _, _, _, _]) ?_
  refine any_c (_, []) (fun τ => op_bsF _ _ inferInstance rfl (by rfl) (by simp <;> rfl) (by decide) rfl) ?_
  refine any_n (rfl : _ = [_, _, _, _, _, _, _]) ?_
  refine any_c (_, [((1, 9), .gone), ((11, 0), _)]) (fun τ => op_apM (id := (1, 9)) (b := true) (11, 0) _ _ inferInstance rfl (mix_own rfl (by exact inO_head) rfl) (by simp; omega) (.sl rfl) (by omega) rfl rfl rfl (isl_append L [x]) rfl) ?_
  refine any_n (rfl : _ = [_, _, _, _, _, _, _, _]) ?_
  refine any_c (_, []) (fun τ => op_nilp _ rfl rfl) ?_
  refine any_n (rfl : _ = [_, _, _, _, _, _, _, _, _]) ?_
  refine any_end ⟨rfl, ?_⟩
  refine DL_c (op_stB _ _ inferInstance rfl rfl rfl rfl (Nat.le_of_ble_eq_true rfl) rfl) ?_
  refine DL_nil ?_
  exact ret0 (.inl rfl) rfl (Le.outI [((1, 8), (11, 0))] [] (.tup rfl lv_nil) rfl rfl rfl trivial ⟨⟨rfl, ⟨_, rfl, .box rfl (lv_cons (lvRr rfl rfl) lv_nil)⟩, rfl⟩, ⟨rfl, ⟨_, rfl, .rowE rfl⟩, rfl⟩, trivial⟩ ⟨rfl, trivial⟩ rfl)
theorem qpop_spec (n : Nat) (L : List Int) (hL : L.length = n) (h0 : 0 < n) (h1 : n ≤ 1000000) :
    Spec Try.prog 177 (inStI [.ptr (0, 9) 0] (qO n L)) (outStI (.ifc 3 (.v (.int .i64 (L.getD (n - 1) 0)))) (qO (n - 1) (L.take (n - 1))) [(0, 9), (1, 9)] [(0, 9), (1, 9)]) := by
  refine Spec.ofNI Try.func177 rfl Try.ntmps177 rfl ?_
  refine D_seq fun K1 hK1 => ?_
  refine D_region ?_
  first
    | refine DL_c (op_as _ (rfl : _ = AV.ifc _ _)) ?_
    | refine DL_c (op_as _ (rfl : _ = AV.v _)) ?_
  refine DL_nil (hK1 _ ?_)
  clear hK1; try clear K1
  refine D_seq fun K2 hK2 => ?_
  refine D_anyL 11 [4, 5, 6, 7, 8, 9, 10, 11, 12, 13, 3] [] (by kernel_rfl) (by kernel_rfl) rfl (nodupO_iff rfl) (rfl : _ = [_, _, _, _, _, _, _, _, _, _, _]) (rfl : _ = []) ?_
  refine any_c (_, []) (fun τ => op_mv _ (rfl : _ = AV.ptr _ _)) ?_
  refine any_n (rfl : _ = [_]) ?_
  refine any_c (_, []) (fun τ => op_nilp _ rfl rfl) ?_
  refine any_n (rfl : _ = [_, _]) ?_
  first
    | refine any_c (_, []) (fun τ => op_ldB _ inferInstance rfl rfl (rfl : _ = some (AV.ref _ _ _))) ?_
    | refine any_c (_, []) (fun τ => op_ldR _ inferInstance rfl rfl (by first | rfl | exact isl_get _ _ (by omega) | exact bsl_get _ _ (by omega) | assumption | exact isl_get _ _ (by omega)) rfl) ?_
  refine any_n (rfl : _ = [_, _, _]) ?_
  refine any_c (_, []) (fun τ => op_mv _ (rfl : _ = AV.ptr _ _)) ?_
  refine any_n (rfl : _ = [_, _, _, _]) ?_
  refine any_c (_, []) (fun τ => op_nilp _ rfl rfl) ?_
  refine any_n (rfl : _ = [_, _, _, _, _]) ?_
  first
    | refine any_c (_, []) (fun τ => op_ldB _ inferInstance rfl rfl (rfl : _ = some (AV.ref _ _ _))) ?_
    | refine any_c (_, []) (fun τ => op_ldR _ inferInstance rfl rfl (by first | rfl | exact isl_get _ _ (by omega) | exact bsl_get _ _ (by omega) | assumption | exact isl_get _ _ (by omega)) rfl) ?_
  refine any_n (rfl : _ = [_, _, _, _, _, _]) ?_
  first
    | refine any_c (_, []) (fun τ => op_lenR _ inferInstance rfl rfl) ?_
    | refine any_c (_, []) (fun τ => op_lenB _ inferInstance rfl rfl) ?_
  refine any_n (rfl : _ = [_, _, _, _, _, _, _]) ?_
  first
    | refine any_c (_, []) (fun τ => op_sub _ _ rfl rfl (i64w (by omega))) ?_
    | refine any_c (_, []) (fun τ => op_sub _ _ rfl rfl rfl) ?_
  refine any_n (rfl : _ = [_, _, _, _, _, _, _, _]) ?_
  refine any_c (_, []) (fun τ => op_ixR _ _ inferInstance rfl rfl rfl (n - 1) (by omega) (by omega) (by exact (Nat.zero_add _).trans (Nat.mul_one _))) ?_
  refine any_n (rfl : _ = [_, _, _, _, _, _, _, _, _]) ?_
  first
    | refine any_c (_, []) (fun τ => op_ldR _ inferInstance rfl rfl (by first | rfl | exact isl_get _ _ (by omega) | exact bsl_get _ _ (by omega) | assumption | exact isl_get _ _ (by omega)) rfl) ?_
    | refine any_c (_, []) (fun τ => op_ldB _ inferInstance rfl rfl (rfl : _ = some (AV.v (.int _ _)))) ?_
  refine any_n (rfl : _ = [_, _, _, _, _, _, _, _, _, _]) ?_
  refine any_c (_, []) (fun τ => op_as _ (rfl : _ = AV.v (.int _ _))) ?_
  refine any_n (rfl : _ = [_, _, _, _, _, _, _, _, _, _, _]) ?_
  refine any_end ⟨rfl, ?_⟩
  refine DL_nil (hK2 _ ?_)
  clear hK2; try clear K2
  refine D_seq fun K3 hK3 => ?_
  refine D_le (σ' := mkStI 27 [(0, _), (3, _)] [((0, 9), _), ((1, 9), _)] [(0, 9), (1, 9)] [(0, 9), (1, 9)]) (by
    refine Le.mkJ [] [] rfl ?_ ?_ trivial ⟨rfl, rfl, trivial⟩ ?_
    · exact ⟨(iP rfl), (iV rfl), trivial⟩
    · exact ⟨(obE rfl rfl rfl), (obE rfl rfl rfl), trivial⟩
    · kernel_rfl) ?_
  refine D_anyL 11 [14, 15, 16, 17, 18, 19, 20, 21, 22, 23, 24] [] (by kernel_rfl) (by kernel_rfl) rfl (nodupO_iff rfl) (rfl : _ = [_, _, _, _, _, _, _, _, _, _, _]) (rfl : _ = [_]) ?_
  refine any_c (_, []) (fun τ => op_mv _ (rfl : _ = AV.ptr _ _)) ?_
  refine any_n (rfl : _ = [_]) ?_
  refine any_c (_, []) (fun τ => op_mv _ (rfl : _ = AV.ptr _ _)) ?_
  refine any_n (rfl : _ = [_, _]) ?_
  refine any_c (_, []) (fun τ => op_nilp _ rfl rfl) ?_
  refine any_n (rfl : _ = [_, _, _]) ?_
  first
    | refine any_c (_, []) (fun τ => op_ldB _ inferInstance rfl rfl (rfl : _ = some (AV.ref _ _ _))) ?_
    | refine any_c (_, []) (fun τ => op_ldR _ inferInstance rfl rfl (by first | rfl | exact isl_get _ _ (by omega) | exact bsl_get _ _ (by omega) | assumption | exact isl_get _ _ (by omega)) rfl) ?_
  refine any_n (rfl : _ = [_, _, _, _]) ?_
  refine any_c (_, []) (fun τ => op_mv _ (rfl : _ = AV.ptr _ _)) ?_
  refine any_n (rfl : _ = [_, _, _, _, _]) ?_
  refine any_c (_, []) (fun τ => op_nilp _ rfl rfl) ?_
  refine any_n (rfl : _ = [_, _, _, _, _, _]) ?_
  first
    | refine any_c (_, []) (fun τ => op_ldB _ inferInstance rfl rfl (rfl : _ = some (AV.ref _ _ _))) ?_
    | refine any_c (_, []) (fun τ => op_ldR _ inferInstance rfl rfl (by first | rfl | exact isl_get _ _ (by omega) | exact bsl_get _ _ (by omega) | assumption | exact isl_get _ _ (by omega)) rfl) ?_
  refine any_n (rfl : _ = [_, _, _, _, _, _, _]) ?_
  first
    | refine any_c (_, []) (fun τ => op_lenR _ inferInstance rfl rfl) ?_
    | refine any_c (_, []) (fun τ => op_lenB _ inferInstance rfl rfl) ?_
  refine any_n (rfl : _ = [_, _, _, _, _, _, _, _]) ?_
  first
    | refine any_c (_, []) (fun τ => op_sub _ _ rfl rfl (i64w (by omega))) ?_
    | refine any_c (_, []) (fun τ => op_sub _ _ rfl rfl rfl) ?_
  refine any_n (rfl : _ = [_, _, _, _, _, _, _, _, _]) ?_
  refine any_c (_, []) (fun τ => op_slR _ _ _ inferInstance rfl rfl 0 (n - 1) .dflt (.lit rfl (by omega)) (by omega) (by omega) rfl (Nat.sub_zero _)) ?_
  refine any_n (rfl : _ = [_, _, _, _, _, _, _, _, _, _]) ?_
  refine any_c (_, []) (fun τ => op_nilp _ rfl rfl) ?_
  refine any_n (rfl : _ = [_, _, _, _, _, _, _, _, _, _, _]) ?_
  refine any_end ⟨rfl, ?_⟩
  refine DL_c (op_stB _ _ inferInstance rfl rfl rfl rfl (Nat.le_of_ble_eq_true rfl) rfl) ?_
  refine DL_nil (hK3 _ ?_)
  clear hK3; try clear K3
  refine D_seq fun K4 hK4 => ?_
  refine D_region ?_
  refine DL_c (op_mv _ (rfl : _ = AV.v (.int _ _))) ?_
  refine DL_c (op_mkI _ Try.underlying3 rfl (rfl : _ = AV.v (.int _ _))) ?_
  refine DL_c (op_as _ (rfl : _ = AV.ifc _ _)) ?_
  refine DL_nil (hK4 _ ?_)
  clear hK4; try clear K4
  refine D_ret ?_
  exact ret1 (.inr rfl) rfl (.tmp (rfl : _ = AV.ifc _ _)) (Le.outI [] [] (.ifc .v) rfl rfl rfl trivial ⟨⟨rfl, ⟨_, rfl, .box rfl (lv_cons (lvRr rfl rfl) lv_nil)⟩, rfl⟩, ⟨rfl, ⟨_, rfl, .row (zs := isl (L.drop (n - 1))) (by rw [isl_append, List.take_append_drop])⟩, rfl⟩, trivial⟩ ⟨rfl, rfl, trivial⟩ rfl)
end Go.Proofs.Ytkbkmngbenohkaa
