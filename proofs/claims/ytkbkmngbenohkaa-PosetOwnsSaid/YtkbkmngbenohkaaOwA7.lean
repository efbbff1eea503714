/- Down by the machine: the order's and the reference's; a search through a slice by a function. -/
import Derived.Test.YtkbkmngbenohkaaOwA6
set_option linter.unusedSimpArgs false
set_option linter.unusedVariables false
namespace Go.Proofs.Ytkbkmngbenohkaa
open Go.RowKit

def firstI (p : Int → Bool) : List Int → Int
  | [] => -1
  | x :: l => if p x = true then 0 else (let r := firstI p l; if r < 0 then -1 else r + 1)
theorem firstI_none {p : Int → Bool} : ∀ {l : List Int}, (∀ i, i < l.length → p (l.getD i 0) = false) → firstI p l = -1
  | [], _ => rfl
  | x :: l, h => by
    have h0 : p x = false := h 0 (by simp)
    have h1 : firstI p l = -1 := firstI_none fun i hi => by simpa using h (i + 1) (by simpa using hi)
    simp [firstI, h0, h1]
theorem firstI_at {p : Int → Bool} : ∀ {l : List Int} {i : Nat}, i < l.length → (∀ j, j < i → p (l.getD j 0) = false) → p (l.getD i 0) = true → firstI p l = (i : Int)
  | [], i, h, _, _ => by simp at h
  | x :: l, 0, _, _, h => by
    have : p x = true := by simpa using h
    simp [firstI, this]
  | x :: l, i + 1, h, hn, hy => by
    have h0 : p x = false := by simpa using hn 0 (by omega)
    have h1 : firstI p l = (i : Int) := firstI_at (by simpa using h) (fun j hj => by simpa using hn (j + 1) (by omega)) (by simpa using hy)
    simp only [firstI, h0, h1]
    rw [if_neg (by decide), if_neg (by omega)]; omega
theorem firstI_any {p : Int → Bool} : ∀ {l : List Int}, decide (0 ≤ firstI p l) = l.any p
  | [] => by simp [firstI]
  | x :: l => by
    have ih := firstI_any (p := p) (l := l)
    rw [List.any_cons, ← ih]
    cases h : p x
    · simp only [firstI, h]
      by_cases h2 : firstI p l < 0
      · have h3 : ¬ 0 ≤ firstI p l := by omega
        simp [h2, h3]
      · have h3 : 0 ≤ firstI p l := by omega
        simp [h2, h3]; omega
    · simp [firstI, h]
theorem indexf_spec (f : FuncId) (C : Cbl Try.prog f) (caps : List AV) (hcp : AV.pures caps = true) (hcw : ∀ ids, AV.withins ids caps = true) (n : Nat) (xs : List Int) (hn : xs.length = n) (h1 : n ≤ 4611686018427387904) (p : Int → Bool)
    (hp : ∀ i, i < xs.length → Spec Try.prog f (inSt (.v (.int .i64 (xs.getD i 0)) :: caps) []) (outSt (.v (.bool (p (xs.getD i 0)))) [])) :
    Spec Try.prog 120 (inSt [.sl n (isl xs), .fn (.func f) [] caps] []) (outSt (.v (.int .i64 (firstI p xs))) []) := by
  refine Spec.ofN Try.func120 rfl Try.ntmps120 rfl ?_
  refine D_seq fun K1 hK1 => ?_
  refine D_region ?_
  refine DL_c (op_as _ (rfl : _ = AV.v (.int _ _))) ?_
  refine DL_nil (hK1 _ ?_)
  clear hK1; try clear K1
  refine D_seq fun K2 hK2 => ?_
  refine D_seq fun K3 hK3 => ?_
  refine D_region ?_
  refine DL_c (op_mv _ (rfl : _ = AV.sl _ _)) ?_
  refine DL_c (op_lenS _ inferInstance rfl) ?_
  refine DL_c (op_mv _ (rfl : _ = AV.v (.int _ _))) ?_
  refine DL_nil (hK3 _ ?_)
  clear hK3; try clear K3
  refine D_block ?_
  refine D_loopL (α := Nat) (fun i => i ≤ n ∧ ∀ j, j < i → p (xs.getD j 0) = false) 19 [(0, _), (1, _), (7, _)] [] (fun i => [(8, .v (.int .i64 (i : Int)))]) (fun i => []) [] [] (fun i => n - i) 0 ?_ (by
    refine Le.mkJ [] [] rfl ?_ ?_ trivial trivial ?_
    · exact ⟨(iS rfl), (by first | exact iN rfl | exact iV rfl | exact iD rfl), (iV rfl), (lvI (by first | rfl | omega | (simp; done) | (simp; omega) | assumption)), trivial⟩
    · exact trivial
    · simp [slotsWithin, AV.within, AV.withins, obsWithin, hcw, nodupO, subO]) ?_
  · exact ⟨by omega, fun j hj => by omega⟩
  intro i hi
  obtain ⟨hi, hno⟩ := hi
  refine D_seq fun K4 hK4 => ?_
  refine D_region ?_
  first
    | refine DL_c (op_lss _ _ rfl rfl (by assumption)) ?_
    | refine DL_c (op_lss _ _ rfl rfl rfl) ?_
  refine DL_nil (hK4 _ ?_)
  clear hK4; try clear K4
  refine D_seq fun K5 hK5 => ?_
  refine D_splitC rfl (fun hc9 => ?_) (fun hc9 => ?_)
  · skip
    refine D_skip (hK5 _ ?_)
    clear hK5; try clear K5
    refine D_seq fun K6 hK6 => ?_
    refine D_block ?_
    refine D_seq fun K7 hK7 => ?_
    refine D_region ?_
    refine DL_c (op_mv _ (rfl : _ = AV.v (.int _ _))) ?_
    refine DL_c (op_as _ (rfl : _ = AV.v (.int _ _))) ?_
    refine DL_nil (hK7 _ ?_)
    clear hK7; try clear K7
    refine D_seq fun K8 hK8 => ?_
    refine D_region ?_
    first
      | refine DL_c (op_mv _ (rfl : _ = AV.fn _ _ _)) ?_
      | refine DL_c (op_mv _ (rfl : _ = AV.v _)) ?_
    refine DL_c (op_mv _ (rfl : _ = AV.sl _ _)) ?_
    refine DL_c (op_mv _ (rfl : _ = AV.v (.int _ _))) ?_
    first
      | refine DL_c (op_ixS _ _ inferInstance rfl rfl _ rfl (by omega) (by first | assumption | decide | (simp only [isl_len, bsl_len, psl_len, mrows_len, nsl_len, ws_len]; omega) | (simp; done) | (simp; omega) | (simp [isl, bsl]; omega)) (by first | exact Nat.mul_one _ | rfl | omega)) ?_
      | refine DL_c (op_ixS _ _ inferInstance rfl rfl (Int.toNat _) (Int.toNat_of_nonneg (by omega)).symm (by omega) (by first | assumption | decide | (simp only [isl_len, bsl_len, psl_len, mrows_len, nsl_len, ws_len]; omega) | (simp; done) | (simp; omega) | (simp [isl, bsl]; omega)) (by first | exact Nat.mul_one _ | rfl | omega)) ?_
    refine DL_c (op_ldF _ inferInstance rfl (by first | rfl | exact isl_get _ _ (by omega) | exact bsl_get _ _ (by omega) | assumption | exact mrows_get _ _ (by omega) | exact nsl_get _ _ (by omega)) rfl) ?_
    refine DL_c (op_callHV (first := []) (caps := caps) rfl C (argsLv_cons .v (argsLv_pures caps hcp)) (hp i (by omega)) (by simp [AV.pures, AV.pure, hcp]) rfl) ?_
    refine DL_nil (hK8 _ ?_)
    clear hK8; try clear K8
    refine D_splitC rfl (fun hc16 => ?_) (fun hc16 => ?_)
    · skip
      refine D_seq fun K9 hK9 => ?_
      refine D_region ?_
      refine DL_c (op_mv _ (rfl : _ = AV.v (.int _ _))) ?_
      refine DL_c (op_as _ (rfl : _ = AV.v (.int _ _))) ?_
      refine DL_nil (hK9 _ ?_)
      clear hK9; try clear K9
      refine D_ret ?_
      refine ret1 (.inr rfl) rfl (.tmp (rfl : _ = AV.v (.int _ _))) (Le.out [] [] (lvI ?_) rfl rfl rfl trivial trivial)
      exact firstI_at (by omega) hno hc16
    · skip
      refine D_skip (hK6 _ ?_)
      clear hK6; try clear K6
      refine D_region ?_
      first
        | refine DL_c (op_add _ _ rfl rfl (i64w (by omega))) ?_
        | refine DL_c (op_add _ _ rfl rfl rfl) ?_
      refine DL_c (op_mv _ (rfl : _ = AV.v (.int _ _))) ?_
      refine DL_nil ?_
      refine ⟨i + 1, ?_, ?_, ?_⟩
      · exact ⟨by omega, all_succ hno hc16⟩
      · skip
        refine Le.mkJ [] [] rfl ?_ ?_ trivial trivial ?_
        · exact ⟨(iS rfl), (by first | exact iN rfl | exact iV rfl | exact iD rfl), (iV rfl), (lvI (by first | rfl | omega | (simp; done) | (simp; omega) | assumption)), trivial⟩
        · exact trivial
        · simp [slotsWithin, AV.within, AV.withins, obsWithin, hcw, nodupO, subO]
      · omega
  · skip
    refine D_exit ?_
    refine id (hK2 _ ?_)
    clear hK2; try clear K2
    refine D_seq fun K10 hK10 => ?_
    refine D_region ?_
    refine DL_c (op_as _ (rfl : _ = AV.v (.int _ _))) ?_
    refine DL_nil (hK10 _ ?_)
    clear hK10; try clear K10
    refine D_ret ?_
    refine ret1 (.inr rfl) rfl (.tmp (rfl : _ = AV.v (.int _ _))) (Le.out [] [] (lvI ?_) rfl rfl rfl trivial trivial)
    exact firstI_none fun j hj => hno j (by omega)
theorem containsf_spec (f : FuncId) (C : Cbl Try.prog f) (caps : List AV) (hcp : AV.pures caps = true) (hcw : ∀ ids, AV.withins ids caps = true) (n : Nat) (xs : List Int) (hn : xs.length = n) (h1 : n ≤ 4611686018427387904) (p : Int → Bool)
    (hp : ∀ i, i < xs.length → Spec Try.prog f (inSt (.v (.int .i64 (xs.getD i 0)) :: caps) []) (outSt (.v (.bool (p (xs.getD i 0)))) [])) :
    Spec Try.prog 85 (inSt [.sl n (isl xs), .fn (.func f) [] caps] []) (outSt (.v (.bool (xs.any p))) []) := by
  refine Spec.ofN Try.func85 rfl Try.ntmps85 rfl ?_
  refine D_seq fun K1 hK1 => ?_
  refine D_region ?_
  refine DL_c (op_as _ (rfl : _ = AV.v (.bool _))) ?_
  refine DL_nil (hK1 _ ?_)
  clear hK1; try clear K1
  refine D_seq fun K2 hK2 => ?_
  refine D_region ?_
  refine DL_c (op_mv _ (rfl : _ = AV.sl _ _)) ?_
  first
    | refine DL_c (op_mv _ (rfl : _ = AV.fn _ _ _)) ?_
    | refine DL_c (op_mv _ (rfl : _ = AV.v _)) ?_
  refine DL_c (op_callH inferInstance (argsLv_pures [.sl n (isl xs), .fn (.func f) [] caps] (by simp [AV.pures, AV.pure, hcp])) (indexf_spec f C caps hcp hcw n xs hn h1 p hp) (by simp [AV.pures, AV.pure, hcp]) rfl) ?_
  first
    | refine DL_c (op_geq _ _ rfl rfl (by assumption)) ?_
    | refine DL_c (op_geq _ _ rfl rfl rfl) ?_
  refine DL_c (op_as _ (rfl : _ = AV.v (.bool _))) ?_
  refine DL_nil (hK2 _ ?_)
  clear hK2; try clear K2
  refine D_ret ?_
  refine ret1 (.inr rfl) rfl (.tmp (rfl : _ = AV.v (.bool _))) (Le.out [] [] (lvB ?_) rfl rfl rfl trivial trivial)
  exact firstI_any.symm

def downB (n : Nat) (lt : Lt) (l : List Int) (a : Nat) : Bool := l.any fun x => (a : Int) == x || rless n lt (a : Int) x
def downA (n : Nat) (lt : Lt) (l : List Int) (k : Nat) : List Nat := (List.range k).filter (downB n lt l)
theorem downA_yes {n : Nat} {lt : Lt} {l : List Int} {k : Nat} (h : downB n lt l k = true) : downA n lt l (k + 1) = downA n lt l k ++ [k] := by simp [downA, List.range_succ, h]
theorem downA_no {n : Nat} {lt : Lt} {l : List Int} {k : Nat} (h : downB n lt l k = false) : downA n lt l (k + 1) = downA n lt l k := by simp [downA, List.range_succ, h]
theorem downA_len (n : Nat) (lt : Lt) (l : List Int) (k : Nat) : (downA n lt l k).length ≤ k := by
  have := List.length_filter_le (downB n lt l) (List.range k)
  simpa [downA] using this
theorem downC_spec (n : Nat) (ab : List Nat) (hW : Words n ab) (a b : Int) :
    Spec Try.prog 86 (inSt [.v (.int .i64 b), .fp 0 [.v (.int .i64 a)], .fp 0 [.ptr 0 (ord n ab)]] []) (outSt (.v (.bool (a == b || rless n (wlt ab) a b))) []) := by
  have hls := less_spec n ab hW a b
  rw [oless_r] at hls
  refine Spec.ofN Try.func86 rfl Try.ntmps86 rfl ?_
  refine D_seq fun K1 hK1 => ?_
  refine D_region ?_
  refine DL_c (op_as _ (rfl : _ = AV.v (.bool _))) ?_
  refine DL_nil (hK1 _ ?_)
  clear hK1; try clear K1
  refine D_seq fun K2 hK2 => ?_
  refine D_region ?_
  refine DL_c (op_ldF _ inferInstance rfl (rfl : _ = some (PV.v (.int .i64 a))) rfl) ?_
  refine DL_c (op_mv _ (rfl : _ = AV.v (.int _ _))) ?_
  first
    | refine DL_c (op_eql _ _ rfl rfl (by assumption)) ?_
    | refine DL_c (op_eql _ _ rfl rfl rfl) ?_
  refine DL_c (op_mv _ (rfl : _ = AV.v (.bool _))) ?_
  refine DL_caseC (fun hg8 => ?_) (fun hg8 => ?_)
  · skip
    refine DL_cn rfl rfl (by decide) ?_
    refine DL_cn rfl rfl (by decide) ?_
    refine DL_cn rfl rfl (by decide) ?_
    refine DL_cn rfl rfl (by decide) ?_
    refine DL_c (op_pick _ _ _ rfl (rfl : _ = AV.v (.bool _))) ?_
    refine DL_c (op_as _ (rfl : _ = AV.v (.bool _))) ?_
    refine DL_nil (hK2 _ ?_)
    clear hK2; try clear K2
    refine D_ret ?_
    refine ret1 (.inr rfl) rfl (.tmp (rfl : _ = AV.v (.bool _))) (Le.out [] [] (lvB ?_) rfl rfl rfl trivial trivial)
    simp [*]
  · skip
    refine DL_cy rfl rfl (op_ldF _ inferInstance rfl (rfl : _ = some (PV.ptr 0 (ord n ab))) rfl) ?_
    refine DL_cy rfl rfl (op_ldF _ inferInstance rfl (rfl : _ = some (PV.v (.int .i64 a))) rfl) ?_
    refine DL_cy rfl rfl (op_mv _ (rfl : _ = AV.v (.int _ _))) ?_
    refine DL_cy rfl rfl (op_callH inferInstance (by repeat' (first | exact argsLv_nil | refine argsLv_cons ?_ ?_ | exact Lv.v | exact lvI (by omega) | exact Lv.sl | exact Lv.fp | exact Lv.nil | refine Lv.agg rfl ?_ | refine Lv.fn rfl ?_ rfl ?_ | exact lv_nil | refine lv_cons ?_ ?_ | exact Lv.z0)) (hls) rfl rfl) ?_
    refine DL_c (op_pick _ _ _ rfl (rfl : _ = AV.v (.bool _))) ?_
    refine DL_c (op_as _ (rfl : _ = AV.v (.bool _))) ?_
    refine DL_nil (hK2 _ ?_)
    clear hK2; try clear K2
    refine D_ret ?_
    refine ret1 (.inr rfl) rfl (.tmp (rfl : _ = AV.v (.bool _))) (Le.out [] [] (lvB ?_) rfl rfl rfl trivial trivial)
    simp [*]
theorem down_spec (n : Nat) (ab : List Nat) (hW : Words n ab) (m : Nat) (l : List Int) (hm : l.length = m) (h1 : m ≤ 4611686018427387904) :
    Spec Try.prog 39 (inSt [.fp 0 (ord n ab), .sl m (isl l)] []) (outSt (.sl (downA n (wlt ab) l n).length (nsl (downA n (wlt ab) l n))) []) := by
  have hle := hW.le
  refine Spec.ofN Try.func39 rfl Try.ntmps39 rfl ?_
  refine D_seq fun K1 hK1 => ?_
  refine D_region ?_
  refine DL_c (op_box (2, 0) _ rfl rfl) ?_
  first
    | refine DL_c (op_as _ (rfl : _ = AV.sl _ _)) ?_
    | refine DL_c (op_as _ (rfl : _ = AV.ref _ _ _)) ?_
    | refine DL_c (op_as _ (rfl : _ = AV.v (.slice _ _ _))) ?_
    | refine DL_c (op_as _ (rfl : _ = AV.z)) ?_
  refine DL_nil (hK1 _ ?_)
  clear hK1; try clear K1
  refine D_seq fun K2 hK2 => ?_
  refine D_region ?_
  refine DL_c (op_asN (5, 0) _ 3 1 rfl rfl) ?_
  refine DL_nil (hK2 _ ?_)
  clear hK2; try clear K2
  refine D_seq fun K3 hK3 => ?_
  refine D_seq fun K4 hK4 => ?_
  refine D_region ?_
  first
    | refine DL_c (op_ldB _ inferInstance rfl rfl (rfl : _ = some (AV.fp _ _))) ?_
    | refine DL_c (op_ldR _ inferInstance rfl rfl (by first | rfl | exact isl_get _ _ (by omega) | exact bsl_get _ _ (by omega) | assumption | exact mrows_get _ _ (by omega) | exact nsl_get _ _ (by omega)) rfl) ?_
  refine DL_c (op_nilc _ rfl) ?_
  first
    | refine DL_c (op_fldP _ inferInstance rfl rfl rfl) ?_
    | refine DL_c (op_fldF _ inferInstance rfl rfl) ?_
  refine DL_c (op_ldF _ inferInstance rfl (rfl : _ = some (PV.v (.int .i64 (n : Int)))) rfl) ?_
  refine DL_c (op_mv _ (rfl : _ = AV.v (.int _ _))) ?_
  refine DL_nil (hK4 _ ?_)
  clear hK4; try clear K4
  refine D_block ?_
  refine D_loopL (α := Nat) (fun a => a ≤ n) 23 [(1, _), (2, _), (10, _)] [((2, 0), _)] (fun a => [(11, .v (.int .i64 (a : Int))), (5, .ref (5, 0) 0 (downA n (wlt ab) l a).length)]) (fun a => [((5, 0), .row 3 1 (nsl (downA n (wlt ab) l a)))]) [] [] (fun a => n - a) 0 ?_ (by
    refine Le.mkJ [] [] rfl ?_ ?_ trivial trivial ?_
    · exact ⟨(iS rfl), (iP rfl), (iV rfl), (lvI (by first | rfl | omega | (rw [hdy]) | (simp; done) | (simp; omega) | assumption)), (lvRr rfl (by first | rfl | omega | (rw [hdy]) | (simp; done) | (simp; omega) | assumption)), trivial⟩
    · exact ⟨(obE rfl rfl rfl), (obR rfl rfl rfl (by first | rfl | omega | (rw [hdy]) | (simp; done) | (simp; omega) | assumption)), trivial⟩
    · kernel_rfl) ?_
  · first | omega | trivial | exact ⟨by omega, by omega⟩
  intro a ha
  refine D_seq fun K5 hK5 => ?_
  refine D_region ?_
  first
    | refine DL_c (op_lss _ _ rfl rfl (by assumption)) ?_
    | refine DL_c (op_lss _ _ rfl rfl rfl) ?_
  refine DL_nil (hK5 _ ?_)
  clear hK5; try clear K5
  refine D_seq fun K6 hK6 => ?_
  refine D_splitC rfl (fun hc12 => ?_) (fun hc12 => ?_)
  · skip
    have hdl := downA_len n (wlt ab) l a
    refine D_skip (hK6 _ ?_)
    clear hK6; try clear K6
    refine D_seq fun K7 hK7 => ?_
    refine D_block ?_
    refine D_seq fun K8 hK8 => ?_
    refine D_region ?_
    refine DL_c (op_mv _ (rfl : _ = AV.v (.int _ _))) ?_
    refine DL_c (op_alloc (6, 0) inferInstance rfl rfl) ?_
    refine DL_c (op_stB _ _ inferInstance rfl rfl rfl rfl (Nat.le_of_ble_eq_true rfl) rfl) ?_
    refine DL_nil (hK8 _ ?_)
    clear hK8; try clear K8
    refine D_seq fun K9 hK9 => ?_
    refine D_region ?_
    refine DL_c (op_mv _ (rfl : _ = AV.sl _ _)) ?_
    refine DL_c (op_mf _ _ (rfl : _ = []) (rfl : _ = [_, _])) ?_
    refine DL_c (op_callBH inferInstance (by repeat' (first | exact argsLv_nil | refine argsLv_cons ?_ ?_ | exact Lv.v | exact lvI (by omega) | exact Lv.sl | exact Lv.fp | exact Lv.nil | refine Lv.agg rfl ?_ | refine Lv.fn rfl ?_ rfl ?_ | exact lv_nil | refine lv_cons ?_ ?_ | (refine frz0 rfl rfl ?_ rfl; first | (simp; done) | (simp; omega) | omega) | exact Lv.frzP rfl rfl rfl)) (containsf_spec _ inferInstance [.fp 0 [.v (.int .i64 (a : Int))], .fp 0 [.ptr 0 (ord n ab)]] rfl (fun _ => rfl) m l hm h1 (fun x => (a : Int) == x || rless n (wlt ab) a x) (fun i hi => downC_spec n ab hW a _)) rfl) ?_
    refine DL_nil (hK9 _ ?_)
    clear hK9; try clear K9
    refine D_splitC rfl (fun hc16 => ?_) (fun hc16 => ?_)
    · skip
      have hdy := downA_yes (n := n) (lt := wlt ab) (l := l) (k := a) hc16
      refine D_region ?_
      refine DL_c (op_mv _ (rfl : _ = AV.ref _ _ _)) ?_
      first
        | refine DL_c (op_ldB _ inferInstance rfl rfl (rfl : _ = some (AV.v (.int _ _)))) ?_
        | refine DL_c (op_ldR _ inferInstance rfl rfl (by first | rfl | exact isl_get _ _ (by omega) | exact bsl_get _ _ (by omega) | assumption | exact mrows_get _ _ (by omega) | exact nsl_get _ _ (by omega)) rfl) ?_
      refine DL_c (op_bsF _ _ inferInstance rfl (by rfl) (by simp <;> rfl) (by decide) rfl) ?_
      refine DL_c (op_ap (20, 0) _ _ inferInstance rfl rfl (by first | rfl | omega | (simp only [isl_len, bsl_len, psl_len, mrows_len, nsl_len, ws_len]; omega) | (simp; done) | (simp; omega)) (by first | exact .nil | (refine .sl ?_; first | (simp [isl]; done) | (simp [isl]; omega)) | (refine .ref rfl rfl ?_; first | (simp; done) | (simp; omega))) (by omega) rfl (rfl) (rfl)) ?_
      refine DL_c (op_as _ (rfl : _ = AV.ref _ _ _)) ?_
      refine DL_nil (hK7 _ ?_)
      clear hK7; try clear K7
      refine D_region ?_
      first
        | refine DL_c (op_add _ _ rfl rfl (i64w (by omega))) ?_
        | refine DL_c (op_add _ _ rfl rfl rfl) ?_
      refine DL_c (op_mv _ (rfl : _ = AV.v (.int _ _))) ?_
      refine DL_nil ?_
      refine ⟨a + 1, ?_, ?_, ?_⟩
      · first | omega | trivial | exact ⟨by omega, by omega⟩
      · skip
        refine Le.mkJ [((5, 0), (20, 0))] [] rfl ?_ ?_ trivial trivial ?_
        · exact ⟨(by repeat' (first | exact Lv.v | exact Lv.sl | exact Lv.fp | exact lvRr (id := (2, 0)) rfl rfl | exact lvPr (id := (2, 0)) rfl | exact lvRr (id := (6, 0)) rfl rfl | exact lvPr (id := (6, 0)) rfl | exact lvRr (id := (5, 0)) rfl rfl | exact lvPr (id := (5, 0)) rfl | exact lvRr rfl rfl | exact lvPr rfl | exact Lv.mp | exact Lv.nil | exact Lv.z | exact Lv.dead | refine Lv.agg rfl ?_ | refine Lv.fn rfl ?_ rfl ?_ | refine Lv.tup rfl ?_ | refine Lv.ifc ?_ | exact lv_nil | refine lv_cons ?_ ?_)), (lvPr (id := (2, 0)) rfl), (by repeat' (first | exact Lv.v | exact Lv.sl | exact Lv.fp | exact lvRr (id := (2, 0)) rfl rfl | exact lvPr (id := (2, 0)) rfl | exact lvRr (id := (6, 0)) rfl rfl | exact lvPr (id := (6, 0)) rfl | exact lvRr (id := (5, 0)) rfl rfl | exact lvPr (id := (5, 0)) rfl | exact lvRr rfl rfl | exact lvPr rfl | exact Lv.mp | exact Lv.nil | exact Lv.z | exact Lv.dead | refine Lv.agg rfl ?_ | refine Lv.fn rfl ?_ rfl ?_ | refine Lv.tup rfl ?_ | refine Lv.ifc ?_ | exact lv_nil | refine lv_cons ?_ ?_)), (lvI (by first | rfl | omega | (first | (rw [hdy, List.length_append]; rfl) | (rw [hdy, ← nsl_append]; rfl)) | (simp; done) | (simp; omega) | assumption)), (lvRr rfl (by first | rfl | omega | (first | (rw [hdy, List.length_append]; rfl) | (rw [hdy, ← nsl_append]; rfl)) | (simp; done) | (simp; omega) | assumption)), trivial⟩
        · exact ⟨(obB rfl rfl rfl rfl (by repeat' (first | exact Lv.v | exact Lv.sl | exact Lv.fp | exact lvRr (id := (2, 0)) rfl rfl | exact lvPr (id := (2, 0)) rfl | exact lvRr (id := (6, 0)) rfl rfl | exact lvPr (id := (6, 0)) rfl | exact lvRr (id := (5, 0)) rfl rfl | exact lvPr (id := (5, 0)) rfl | exact lvRr rfl rfl | exact lvPr rfl | exact Lv.mp | exact Lv.nil | exact Lv.z | exact Lv.dead | refine Lv.agg rfl ?_ | refine Lv.fn rfl ?_ rfl ?_ | refine Lv.tup rfl ?_ | refine Lv.ifc ?_ | exact lv_nil | refine lv_cons ?_ ?_))), (obR rfl rfl rfl (by first | rfl | omega | (first | (rw [hdy, List.length_append]; rfl) | (rw [hdy, ← nsl_append]; rfl)) | (simp; done) | (simp; omega) | assumption)), trivial⟩
        · kernel_rfl
      · omega
    · skip
      have hdy := downA_no (n := n) (lt := wlt ab) (l := l) (k := a) hc16
      refine D_skip (hK7 _ ?_)
      clear hK7; try clear K7
      refine D_region ?_
      first
        | refine DL_c (op_add _ _ rfl rfl (i64w (by omega))) ?_
        | refine DL_c (op_add _ _ rfl rfl rfl) ?_
      refine DL_c (op_mv _ (rfl : _ = AV.v (.int _ _))) ?_
      refine DL_nil ?_
      refine ⟨a + 1, ?_, ?_, ?_⟩
      · first | omega | trivial | exact ⟨by omega, by omega⟩
      · skip
        refine Le.mkJ [] [] rfl ?_ ?_ trivial trivial ?_
        · exact ⟨(iS rfl), (iP rfl), (iV rfl), (lvI (by first | rfl | omega | (rw [hdy]) | (simp; done) | (simp; omega) | assumption)), (lvRr rfl (by first | rfl | omega | (rw [hdy]) | (simp; done) | (simp; omega) | assumption)), trivial⟩
        · exact ⟨(obE rfl rfl rfl), (obR rfl rfl rfl (by first | rfl | omega | (rw [hdy]) | (simp; done) | (simp; omega) | assumption)), trivial⟩
        · kernel_rfl
      · omega
  · skip
    obtain rfl : n = a := by omega
    refine D_exit ?_
    refine id (hK3 _ ?_)
    clear hK3; try clear K3
    refine D_seq fun K10 hK10 => ?_
    refine D_region ?_
    refine DL_c (op_mv _ (rfl : _ = AV.ref _ _ _)) ?_
    refine DL_c (op_as _ (rfl : _ = AV.ref _ _ _)) ?_
    refine DL_nil (hK10 _ ?_)
    clear hK10; try clear K10
    refine D_ret ?_
    exact ret1 (.inr rfl) rfl (.tmp (rfl : _ = AV.ref _ _ _)) (Le.out [] [(5, 0)] (frz0 rfl rfl (by first | rfl | omega | simp) (by first | rfl | simp)) rfl rfl rfl ⟨rfl, trivial⟩ trivial)
end Go.Proofs.Ytkbkmngbenohkaa
