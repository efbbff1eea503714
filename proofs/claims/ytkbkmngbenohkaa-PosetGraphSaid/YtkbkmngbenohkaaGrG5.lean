/- graph.Topo by the machine. -/
import Derived.Test.YtkbkmngbenohkaaGrG4
import Derived.Test.YtkbkmngbenohkaaGrG2
import Derived.Test.YtkbkmngbenohkaaGrV1
set_option linter.unusedSimpArgs false
set_option linter.unusedVariables false
namespace Go.Proofs.Ytkbkmngbenohkaa
open Go.RowKit

abbrev qI (n : Nat) (L : List Int) : List (Oid × Cells) := [((0, 9), .box 117 [.ref (1, 9) 0 n]), ((1, 9), .row 3 1 (isl L)), ((2, 9), .box 116 [.ptr (0, 9) 0])]
theorem topo1_spec (n : Nat) (L : List Int) (hL : L.length = n) (h1 : n ≤ 1000000) (x : Int) :
    Spec Try.prog 91 (inStI [.v (.int .i64 x), .ptr (2, 9) 0] (qI n L)) (outStI (.tup []) [((0, 9), .box 117 [.ref (1, 8) 0 (n + 1)]), ((1, 8), .row 3 1 (isl (hpush L x))), ((2, 9), .box 116 [.ptr (0, 9) 0])] [(0, 9), (1, 8), (2, 9)] [(0, 9), (2, 9)]) := by
  refine Spec.ofNI Try.func91 rfl Try.ntmps91 rfl ?_
  refine D_region ?_
  first
    | refine DL_c (op_ldB _ inferInstance rfl rfl (rfl : _ = some (AV.ptr _ _))) ?_
    | refine DL_c (op_ldR _ inferInstance rfl rfl (by first | rfl | exact isl_get _ _ (by omega) | exact bsl_get _ _ (by omega) | assumption | exact isl_get _ _ (by omega) | exact nrows_get _ _ (by omega)) rfl) ?_
  first
    | refine DL_c (op_mkI _ Try.underlying116 rfl (rfl : _ = AV.ptr _ _)) ?_
    | refine DL_c (op_mkI _ Try.underlying116 rfl (rfl : _ = AV.fp _ _)) ?_
    | refine DL_c (op_mkI _ Try.underlying116 rfl (rfl : _ = AV.v (.pointer _))) ?_
  refine DL_c (op_mv _ (rfl : _ = AV.v (.int _ _))) ?_
  refine DL_c (op_mkI _ Try.underlying3 rfl (rfl : _ = AV.v (.int _ _))) ?_
  refine DL_c (op_callR inferInstance [((1, 8), (50, 0))] ?_ (heapPush_spec n L hL h1 x) ⟨⟨rfl, ⟨_, rfl, .box rfl (lv_cons (lvRr rfl rfl) lv_nil)⟩, rfl⟩, ⟨rfl, ⟨_, rfl, .rowE rfl⟩, rfl⟩, trivial⟩ ⟨rfl, rfl, trivial⟩ (by kernel_rfl)) ?_
  · repeat' (first | exact argsR_nil | refine argsR_cons ?_ ?_ | exact Lv.v | exact lvI (by assumption) | exact lvI (by omega) | exact Lv.sl | exact Lv.fp | exact Lv.nil | exact lvRr rfl rfl | exact lvPr rfl | refine Lv.agg rfl ?_ | refine Lv.fn rfl ?_ rfl ?_ | refine Lv.ifc ?_ | exact lv_nil | refine lv_cons ?_ ?_)
  refine DL_nil ?_
  exact ret0 (.inl rfl) rfl (Le.outI [((1, 8), (50, 0))] [] (.tup rfl lv_nil) rfl rfl rfl trivial ⟨⟨rfl, ⟨_, rfl, .box rfl (lv_cons (lvRr rfl rfl) lv_nil)⟩, rfl⟩, ⟨rfl, ⟨_, rfl, .rowE rfl⟩, rfl⟩, ⟨rfl, ⟨_, rfl, .box rfl (lv_cons (lvPr rfl) lv_nil)⟩, rfl⟩, trivial⟩ ⟨rfl, rfl, trivial⟩ rfl)
theorem TI.wbd {n : Nat} {S : List (List Int)} {out : List Nat} {H W r : List Int} (t : TI n S out H W r) {b : Nat} (hb : b < n) : W.getD b 0 ≤ (n : Int) + r.length := by
  have h1 := t.w b hb
  have h2 : ind n S out b ≤ n := by
    have : ind n S out b ≤ (List.range n).length := List.countP_le_length
    simpa using this
  have h3 : r.count (b : Int) ≤ r.length := List.count_le_length
  omega
theorem drop1 {l : List Int} {j : Nat} (h : j < l.length) : l.drop j = l.getD j 0 :: l.drop (j + 1) := by
  rw [List.drop_eq_getElem_cons h, List.getD_eq_getElem?_getD, List.getElem?_eq_getElem h]; rfl
end Go.Proofs.Ytkbkmngbenohkaa
