/- Ints by the machine. -/
import Derived.Test.YtkbkmngbenohkaaA12
set_option linter.unusedSimpArgs false
set_option linter.unusedVariables false
namespace Go.Proofs.Ytkbkmngbenohkaa
open Go.RowKit

theorem ints_own (m : Nat) (l : List Int) (hm : l.length = m) (h1 : m ≤ 4611686018427387904) (k : Nat) (hk : k ≤ 1000) :
    Spec Try.prog 38 (inSt [.sl m (isl l), .v (.int .i64 (k : Int))] []) (outSt (.ref (0, 8) 0 (min m k)) [((0, 8), .row 3 1 (isl (l.take (min m k))))]) := by
  have e1 : min (m : Int) (k : Int) = ((min m k : Nat) : Int) := by omega
  refine Spec.ofN Try.func38 rfl Try.ntmps38 rfl ?_
  refine D_seq fun K1 hK1 => ?_
  refine D_region ?_
  first
    | refine DL_c (op_as _ (rfl : _ = AV.sl _ _)) ?_
    | refine DL_c (op_as _ (rfl : _ = AV.ref _ _ _)) ?_
    | refine DL_c (op_as _ (rfl : _ = AV.v (.slice _ _ _))) ?_
    | refine DL_c (op_as _ (rfl : _ = AV.z)) ?_
  refine DL_nil (hK1 _ ?_)
  clear hK1; try clear K1
  refine D_seq fun K2 hK2 => ?_
  refine D_region ?_
  first
    | refine DL_c (op_as _ (rfl : _ = AV.sl _ _)) ?_
    | refine DL_c (op_as _ (rfl : _ = AV.ref _ _ _)) ?_
    | refine DL_c (op_as _ (rfl : _ = AV.v (.slice _ _ _))) ?_
    | refine DL_c (op_as _ (rfl : _ = AV.z)) ?_
  refine DL_nil (hK2 _ ?_)
  clear hK2; try clear K2
  refine D_seq fun K3 hK3 => ?_
  refine D_region ?_
  first
    | refine DL_c (op_mv _ (rfl : _ = AV.sl _ _)) ?_
    | refine DL_c (op_mv _ (rfl : _ = AV.ref _ _ _)) ?_
    | refine DL_c (op_mv _ (rfl : _ = AV.v (.slice _ _ _))) ?_
    | refine DL_c (op_mv _ (rfl : _ = AV.z)) ?_
  refine DL_c (op_mv _ (rfl : _ = AV.sl _ _)) ?_
  refine DL_c (op_mv _ (rfl : _ = AV.sl _ _)) ?_
  refine DL_c (op_lenS _ inferInstance rfl) ?_
  refine DL_c (op_mv _ (rfl : _ = AV.v (.int _ _))) ?_
  refine DL_c (op_min _ _ rfl rfl e1) ?_
  refine DL_c (op_slS _ _ _ inferInstance rfl 0 _ .dflt (.lit rfl rfl) (by omega) (by omega) (by first | exact isl_pre _ _ | exact psl_pre _ _ | exact bsl_pre _ _) (Nat.sub_zero _)) ?_
  refine DL_c (op_ap0 (13, 0) _ _ inferInstance rfl (.sl (by rw [isl_len, List.length_take]; omega)) (by omega) rfl) ?_
  refine DL_c (op_as _ (rfl : _ = AV.ref _ _ _)) ?_
  refine DL_nil (hK3 _ ?_)
  clear hK3; try clear K3
  refine D_ret ?_
  exact ret1 (.inr rfl) rfl (.tmp (rfl : _ = AV.ref _ _ _)) (Le.out [((0, 8), (13, 0))] [] (lvRr rfl (by first | rfl | omega | simp)) rfl rfl rfl trivial ⟨⟨rfl, ⟨_, rfl, .rowE (by first | rfl | simp)⟩, rfl⟩, trivial⟩)
end Go.Proofs.Ytkbkmngbenohkaa
