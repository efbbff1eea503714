/- The reference's Ancestors, New by the machine. -/
import Derived.Test.YtkbkmngbenohkaaVoW3
set_option linter.unusedSimpArgs false
set_option linter.unusedVariables false
namespace Go.Proofs.Ytkbkmngbenohkaa
open Go.RowKit

def rat (Ps : List (List Int)) (v : Int) : List Int := if 0 ≤ v ∧ v < (Ps.length : Int) then ssrt (abv Ps [v]) else []
theorem rat_els {Ps : List (List Int)} (hV : Valid Ps) (h64 : Ps.length ≤ 64) (v : Int) : rat Ps v = (wat Ps.length (ancW Ps.length (edg Ps Ps.length 0)) v).map fun (x : Nat) => (x : Int) := by
  unfold rat wat
  by_cases h : 0 ≤ v ∧ v < (Ps.length : Int)
  · obtain ⟨a, rfl⟩ := Int.eq_ofNat_of_zero_le h.1
    rw [if_pos h, if_pos h, Int.toNat_natCast, ancW_get (by omega), anc_els hV h64 (by omega)]
  · rw [if_neg h, if_neg h]; rfl
theorem ok_one {n v : Nat} (h : v < n) : OkP n [(v : Int)] := ⟨by simp, fun p hp => by simp at hp; omega⟩
theorem abv_len {Ps : List (List Int)} (hV : Valid Ps) {l : List Int} (hl : OkP Ps.length l) : (abv Ps l).length ≤ Ps.length := ints_len (abv_ok hV hl).1.1 (abv_ok hV hl).1.2
theorem rancestors_spec (n : Nat) (Ps : List (List Int)) (hPs : Ps.length = n) (hn1 : n ≤ 1000) (hV : Valid Ps) (hm : ∀ v, (Ps.getD v []).length ≤ 1000) (v : Int) :
    Spec Try.prog 66 (inSt [.sl n (nrows Ps), .v (.int .i64 v)] []) (outSt (.sl (rat Ps v).length (isl (rat Ps v))) []) := by
  refine Spec.ofN Try.func66 rfl Try.ntmps66 rfl ?_
  refine D_seq fun K1 hK1 => ?_
  refine D_region ?_
  first
    | refine DL_c (op_as _ (rfl : _ = AV.sl _ _)) ?_
    | refine DL_c (op_as _ (rfl : _ = AV.ref _ _ _)) ?_
    | refine DL_c (op_as _ (rfl : _ = AV.v (.slice _ _ _))) ?_
    | refine DL_c (op_as _ (rfl : _ = AV.z)) ?_
  refine DL_nil (hK1 _ ?_)
  clear hK1; try clear K1
  refine D_seq fun K2 hK2 => ?_
  refine D_seq fun K3 hK3 => ?_
  refine D_region ?_
  refine DL_c (op_mv _ (rfl : _ = AV.v (.int _ _))) ?_
  first
    | refine DL_c (op_lss _ _ rfl rfl (by assumption)) ?_
    | refine DL_c (op_lss _ _ rfl rfl rfl) ?_
  refine DL_c (op_mv _ (rfl : _ = AV.v (.bool _))) ?_
  refine DL_caseC (fun hg7 => ?_) (fun hg7 => ?_)
  · skip
    refine DL_cn rfl rfl (by decide) ?_
    refine DL_cn rfl rfl (by decide) ?_
    refine DL_cn rfl rfl (by decide) ?_
    refine DL_cn rfl rfl (by decide) ?_
    refine DL_c (op_pick _ _ _ rfl (rfl : _ = AV.v (.bool _))) ?_
    refine DL_nil (hK3 _ ?_)
    clear hK3; try clear K3
    refine D_cT rfl rfl ?_
    refine D_seq fun K4 hK4 => ?_
    refine D_region ?_
    first
      | refine DL_c (op_as _ (rfl : _ = AV.sl _ _)) ?_
      | refine DL_c (op_as _ (rfl : _ = AV.ref _ _ _)) ?_
      | refine DL_c (op_as _ (rfl : _ = AV.v (.slice _ _ _))) ?_
      | refine DL_c (op_as _ (rfl : _ = AV.z)) ?_
    refine DL_nil (hK4 _ ?_)
    clear hK4; try clear K4
    refine D_ret ?_
    rw [show rat Ps v = [] from if_neg (by omega)]
    exact ret1 (.inr rfl) rfl (.tmp (rfl : _ = AV.v _)) (Le.out [] [] .nil rfl rfl rfl trivial trivial)
  · skip
    have hvn := hg7
    refine DL_cy rfl rfl (op_mv _ (rfl : _ = AV.v (.int _ _))) ?_
    refine DL_cy rfl rfl (op_mv _ (rfl : _ = AV.sl _ _)) ?_
    refine DL_cy rfl rfl (op_lenS _ inferInstance rfl) ?_
    first
      | refine DL_cy rfl rfl (op_geq _ _ rfl rfl (by assumption)) ?_
      | refine DL_cy rfl rfl (op_geq _ _ rfl rfl rfl) ?_
    refine DL_c (op_pick _ _ _ rfl (rfl : _ = AV.v (.bool _))) ?_
    refine DL_nil (hK3 _ ?_)
    clear hK3; try clear K3
    refine D_splitC rfl (fun hc12 => ?_) (fun hc12 => ?_)
    · skip
      refine D_seq fun K5 hK5 => ?_
      refine D_region ?_
      first
        | refine DL_c (op_as _ (rfl : _ = AV.sl _ _)) ?_
        | refine DL_c (op_as _ (rfl : _ = AV.ref _ _ _)) ?_
        | refine DL_c (op_as _ (rfl : _ = AV.v (.slice _ _ _))) ?_
        | refine DL_c (op_as _ (rfl : _ = AV.z)) ?_
      refine DL_nil (hK5 _ ?_)
      clear hK5; try clear K5
      refine D_ret ?_
      rw [show rat Ps v = [] from if_neg (by omega)]
      exact ret1 (.inr rfl) rfl (.tmp (rfl : _ = AV.v _)) (Le.out [] [] .nil rfl rfl rfl trivial trivial)
    · skip
      have hal : (abv Ps [v]).length ≤ n := hPs ▸ abv_len hV ⟨by simp, fun p hp => by simp at hp; omega⟩
      refine D_skip (hK2 _ ?_)
      clear hK2; try clear K2
      refine D_seq fun K6 hK6 => ?_
      refine D_region ?_
      refine DL_c (op_mv _ (rfl : _ = AV.sl _ _)) ?_
      refine DL_c (op_mv _ (rfl : _ = AV.v (.int _ _))) ?_
      refine DL_c (op_bsF _ _ inferInstance rfl (by rfl) (by simp <;> rfl) (by decide) rfl) ?_
      refine DL_c (op_callH inferInstance (by repeat' (first | exact argsLv_nil | refine argsLv_cons ?_ ?_ | exact Lv.v | exact lvI (by omega) | exact Lv.sl | exact Lv.fp | exact Lv.nil | refine Lv.agg rfl ?_ | refine Lv.fn rfl ?_ rfl ?_ | exact lv_nil | refine lv_cons ?_ ?_ | exact Lv.z0)) (above_spec n Ps hPs hn1 hV hm 1 [v] rfl (by omega) ⟨by simp, fun p hp => by simp at hp; omega⟩) rfl rfl) ?_
      refine DL_c (op_callH inferInstance (by repeat' (first | exact argsLv_nil | refine argsLv_cons ?_ ?_ | exact Lv.v | exact lvI (by omega) | exact Lv.sl | exact Lv.fp | exact Lv.nil | refine Lv.agg rfl ?_ | refine Lv.fn rfl ?_ rfl ?_ | exact lv_nil | refine lv_cons ?_ ?_ | exact Lv.z0)) (sorted_spec _ (abv Ps [v]) rfl (by omega)) rfl rfl) ?_
      first
        | refine DL_c (op_as _ (rfl : _ = AV.sl _ _)) ?_
        | refine DL_c (op_as _ (rfl : _ = AV.ref _ _ _)) ?_
        | refine DL_c (op_as _ (rfl : _ = AV.v (.slice _ _ _))) ?_
        | refine DL_c (op_as _ (rfl : _ = AV.z)) ?_
      refine DL_nil (hK6 _ ?_)
      clear hK6; try clear K6
      refine D_ret ?_
      rw [show rat Ps v = ssrt (abv Ps [v]) from if_pos (by omega), ssrt_len]
      exact ret1 (.inr rfl) rfl (.tmp (rfl : _ = AV.sl _ _)) (Le.out [] [] .sl rfl rfl rfl trivial trivial)
end Go.Proofs.Ytkbkmngbenohkaa
