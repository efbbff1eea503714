/- Small functions by the machine: a set's add, join with a set that may not be there yet, Backward; the reference's Down, Pairs; Ints. -/
import Derived.Test.YtkbkmngbenohkaaOwA8
set_option linter.unusedSimpArgs false
set_option linter.unusedVariables false
namespace Go.Proofs.Ytkbkmngbenohkaa
open Go.RowKit

theorem add_spec (s i : Nat) (hs : s < 18446744073709551616) (hi : i < 64) :
    Spec Try.prog 81 (inStI [.ref (0, 9) 0 1, .v (.int .i64 (i : Int))] [((0, 9), .row 124 1 (ul [s]))]) (outStI (.tup []) [((0, 9), .row 124 1 (ul [s ||| 2 ^ i]))] [(0, 9)] [(0, 9)]) := by
  have hq : (i : Int) % 64 = (i : Int) := by omega
  have hb := bit_lt i hi
  refine Spec.ofNI Try.func81 rfl Try.ntmps81 rfl ?_
  refine D_anyL 10 [4, 5, 6, 7, 8, 9, 10, 11, 12, 13] [] (by kernel_rfl) (by kernel_rfl) rfl (nodupO_iff rfl) (rfl : _ = [_, _, _, _, _, _, _, _, _, _]) (rfl : _ = [_]) ?_
  refine any_c (_, []) (fun τ => op_mv _ (rfl : _ = AV.ref _ _ _)) ?_
  refine any_n (rfl : _ = [_]) ?_
  refine any_c (_, []) (fun τ => op_mv _ (rfl : _ = AV.v (.int _ _))) ?_
  refine any_n (rfl : _ = [_, _]) ?_
  first
    | refine any_c (_, []) (fun τ => op_quo _ _ rfl rfl (by omega) (IntWalk.i64_quo _ _ (by omega))) ?_
    | refine any_c (_, []) (fun τ => op_quo _ _ rfl rfl (by omega) rfl) ?_
  refine any_n (rfl : _ = [_, _, _]) ?_
  refine any_c (_, []) (fun τ => op_ixR _ _ inferInstance rfl rfl rfl 0 (by omega) (by omega) (by exact Nat.zero_add _)) ?_
  refine any_n (rfl : _ = [_, _, _, _]) ?_
  refine any_c (_, []) (fun τ => op_ldR _ inferInstance rfl rfl (rfl : _ = some (PV.v (.int .u64 (s : Int)))) rfl) ?_
  refine any_n (rfl : _ = [_, _, _, _, _]) ?_
  refine any_c (_, []) (fun τ => op_mv _ (rfl : _ = AV.v (.int _ _))) ?_
  refine any_n (rfl : _ = [_, _, _, _, _, _]) ?_
  first
    | refine any_c (_, []) (fun τ => op_rem _ _ rfl rfl (by omega) (Int.tmod_eq_emod_of_nonneg (by omega))) ?_
    | refine any_c (_, []) (fun τ => op_rem _ _ rfl rfl (by omega) rfl) ?_
  refine any_n (rfl : _ = [_, _, _, _, _, _, _]) ?_
  refine any_c (_, []) (fun τ => op_shl _ _ rfl rfl (by omega) ((congrArg (fun z : Int => IntKind.u64.wrap (1 * 2 ^ min z.toNat IntKind.u64.bits)) hq).trans (u64_shl i hi))) ?_
  refine any_n (rfl : _ = [_, _, _, _, _, _, _, _]) ?_
  refine any_c (_, []) (fun τ => op_or _ _ rfl rfl (u64_or s (2 ^ i) hs hb)) ?_
  refine any_n (rfl : _ = [_, _, _, _, _, _, _, _, _]) ?_
  refine any_c (_, []) (fun τ => op_ixR _ _ inferInstance rfl rfl rfl 0 (by omega) (by omega) (by exact Nat.zero_add _)) ?_
  refine any_n (rfl : _ = [_, _, _, _, _, _, _, _, _, _]) ?_
  refine any_end ⟨rfl, ?_⟩
  first
    | refine DL_c (op_stB _ _ inferInstance rfl rfl rfl rfl (Nat.le_of_ble_eq_true rfl) rfl) ?_
    | refine DL_c (op_stR _ _ inferInstance rfl rfl rfl rfl rfl (by first | exact Nat.le_of_ble_eq_true rfl | (simp only [isl_len, bsl_len, psl_len, mrows_len, nsl_len, ws_len, List.length_map, mzero_len, List.length_cons, List.length_nil]; omega) | (simp; done) | (simp; omega)) rfl) ?_
  refine DL_nil ?_
  exact ret0 (.inl rfl) rfl (Le.outI [] [] (.tup rfl lv_nil) rfl rfl rfl trivial ⟨⟨rfl, ⟨_, rfl, .rowE rfl⟩, rfl⟩, trivial⟩ ⟨rfl, trivial⟩ rfl)
theorem join0_spec (s : Nat) :
    Spec Try.prog 82 (inStI [.ref (0, 9) 0 1, .sl 0 (ul [])] [((0, 9), .row 124 1 (ul [s]))]) (outStI (.tup []) [((0, 9), .row 124 1 (ul [s]))] [(0, 9)] [(0, 9)]) := by
  refine Spec.ofNI Try.func82 rfl Try.ntmps82 rfl ?_
  refine D_seq fun K1 hK1 => ?_
  refine D_region ?_
  refine DL_c (op_mv _ (rfl : _ = AV.sl _ _)) ?_
  refine DL_c (op_lenS _ inferInstance rfl) ?_
  refine DL_c (op_mv _ (rfl : _ = AV.v (.int _ _))) ?_
  refine DL_nil (hK1 _ ?_)
  clear hK1; try clear K1
  refine D_block ?_
  refine D_loopL (α := Nat) (fun k => k = 0) 21 [(0, _), (6, _), (7, _)] [((0, 9), _)] (fun k => [(8, .v (.int .i64 (k : Int)))]) (fun k => []) [(0, 9)] [(0, 9)] (fun k => 0) 0 ?_ (by
    refine Le.mkJ [] [] rfl ?_ ?_ trivial ⟨rfl, trivial⟩ ?_
    · exact ⟨(iR rfl), (iS rfl), (iV rfl), (lvI (by first | rfl | omega | (simp; done) | (simp; omega) | assumption)), trivial⟩
    · exact ⟨(obE rfl rfl rfl), trivial⟩
    · kernel_rfl) ?_
  · rfl
  intro k hk
  refine D_seq fun K2 hK2 => ?_
  refine D_region ?_
  first
    | refine DL_c (op_lss _ _ rfl rfl (by assumption)) ?_
    | refine DL_c (op_lss _ _ rfl rfl rfl) ?_
  refine DL_nil (hK2 _ ?_)
  clear hK2; try clear K2
  refine D_seq fun K3 hK3 => ?_
  refine D_splitC rfl (fun hc9 => ?_) (fun hc9 => ?_)
  · skip
    exact absurd  hc9 (by omega)
  · skip
    refine D_exit ?_
    refine id ?_
    exact ret0 (.inl rfl) rfl (Le.outI [] [] (.tup rfl lv_nil) rfl rfl rfl trivial ⟨⟨rfl, ⟨_, rfl, .rowE rfl⟩, rfl⟩, trivial⟩ ⟨rfl, trivial⟩ rfl)
/-- join with a set of at most one word. -/
theorem joinL_spec (s : Nat) (tl : List Nat) (hl : tl.length ≤ 1) (hs : s < 18446744073709551616) (ht : tl.getD 0 0 < 18446744073709551616) :
    Spec Try.prog 82 (inStI [.ref (0, 9) 0 1, .sl tl.length (ul tl)] [((0, 9), .row 124 1 (ul [s]))]) (outStI (.tup []) [((0, 9), .row 124 1 (ul [s ||| tl.getD 0 0]))] [(0, 9)] [(0, 9)]) := by
  match tl, hl with
  | [], _ =>
    have := join0_spec s
    simpa using this
  | [t], _ => exact join_spec s t hs ht
theorem back_spec (n : Nat) (xs : List Int) :
    Spec Try.prog 80 (inSt [.sl n (isl xs)] []) (outSt (.fn (.func 119) [] [.fp 0 [.sl n (isl xs)]]) []) := by
  refine Spec.ofN Try.func80 rfl Try.ntmps80 rfl ?_
  refine D_seq fun K1 hK1 => ?_
  refine D_region ?_
  refine DL_c (op_box (1, 0) _ rfl rfl) ?_
  first
    | refine DL_c (op_as _ (rfl : _ = AV.fn _ _ _)) ?_
    | refine DL_c (op_as _ (rfl : _ = AV.v _)) ?_
  refine DL_nil (hK1 _ ?_)
  clear hK1; try clear K1
  refine D_seq fun K2 hK2 => ?_
  refine D_region ?_
  refine DL_c (op_mf _ _ (rfl : _ = []) (rfl : _ = [_])) ?_
  refine DL_c (op_as _ (rfl : _ = AV.fn _ _ _)) ?_
  refine DL_nil (hK2 _ ?_)
  clear hK2; try clear K2
  refine D_ret ?_
  exact ret1 (.inr rfl) rfl (.tmp (rfl : _ = AV.fn _ _ _)) (Le.out [] [(1, 0)] (.fn rfl lv_nil rfl (lv_cons (.frzP rfl rfl rfl) lv_nil)) rfl rfl rfl ⟨rfl, trivial⟩ trivial)
end Go.Proofs.Ytkbkmngbenohkaa
