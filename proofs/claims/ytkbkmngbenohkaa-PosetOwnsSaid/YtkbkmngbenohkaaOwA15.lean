/- Extensions by the machine: its two closures, itself. -/
import Derived.Test.YtkbkmngbenohkaaOwA12
import Derived.Test.YtkbkmngbenohkaaOwB7
set_option linter.unusedSimpArgs false
set_option linter.unusedVariables false
namespace Go.Proofs.Ytkbkmngbenohkaa
open Go.RowKit

/-- What mark makes of the waits, below k. -/
def mkW (n : Nat) (lt : Lt) (a : Nat) (x : Int) (W : List Int) (k : Nat) : List Int := (List.range n).map fun b => if b < k ∧ lt a b = true then W.getD b 0 + x else W.getD b 0
@[simp] theorem mkW_len (n : Nat) (lt : Lt) (a : Nat) (x : Int) (W : List Int) (k : Nat) : (mkW n lt a x W k).length = n := by simp [mkW]
theorem mkW_get {n : Nat} {lt : Lt} {a : Nat} {x : Int} {W : List Int} {k b : Nat} (h : b < n) : (mkW n lt a x W k).getD b 0 = if b < k ∧ lt a b = true then W.getD b 0 + x else W.getD b 0 := by simp [mkW, h]
theorem mkW_zero {n : Nat} {lt : Lt} {a : Nat} {x : Int} {W : List Int} (h : W.length = n) : mkW n lt a x W 0 = W := by
  apply List.ext_getElem
  · simp [h]
  · intro i h1 h2; simp [mkW, h2]
theorem mkW_no {n : Nat} {lt : Lt} {a : Nat} {x : Int} {W : List Int} {k : Nat} (h : lt a k = false) : mkW n lt a x W (k + 1) = mkW n lt a x W k := by
  refine List.map_congr_left fun b _ => ?_
  by_cases hb : b = k
  · subst hb; simp [h]
  · have : (b < k + 1) = (b < k) := by rw [eq_iff_iff]; omega
    simp only [this]
theorem mkW_yes {n : Nat} {lt : Lt} {a : Nat} {x : Int} {W : List Int} {k : Nat} (hk : k < n) (h : lt a k = true) : (mkW n lt a x W k).set k ((mkW n lt a x W k).getD k 0 + x) = mkW n lt a x W (k + 1) := by
  apply List.ext_getElem
  · simp
  · intro i h1 h2
    rw [List.getElem_set]
    by_cases hi : k = i
    · subst hi
      rw [if_pos rfl, mkW_get hk]; simp [mkW, h]
    · rw [if_neg hi]
      simp only [mkW, List.getElem_map, List.getElem_range]
      have : (i < k + 1) = (i < k) := by rw [eq_iff_iff]; omega
      simp only [this]
theorem mkW_down {n : Nat} {lt : Lt} {out : List Nat} {a : Nat} (ha : a < n) (hno : a ∉ out) : mkW n lt a (-1) (nl (wtL n lt out)) n = nl (wtL n lt (out ++ [a])) := by
  apply List.ext_getElem
  · simp [nl, wtL]
  · intro i h1 h2
    have hi : i < n := by simpa using h1
    simp only [mkW, nl, wtL, List.getElem_map, List.getElem_range, List.getD_eq_getElem?_getD, List.getElem?_map, List.getElem?_range hi, Option.map_some, Option.getD_some]
    cases hl : lt a i with
    | true => rw [if_pos ⟨hi, rfl⟩, wt_yes ha hno hl]; omega
    | false => rw [if_neg (by simp), wt_no hl]
theorem mkW_up {n : Nat} {lt : Lt} {out : List Nat} {a : Nat} (ha : a < n) (hno : a ∉ out) : mkW n lt a 1 (nl (wtL n lt (out ++ [a]))) n = nl (wtL n lt out) := by
  apply List.ext_getElem
  · simp [nl, wtL]
  · intro i h1 h2
    have hi : i < n := by simpa using h1
    simp only [mkW, nl, wtL, List.getElem_map, List.getElem_range, List.getD_eq_getElem?_getD, List.getElem?_map, List.getElem?_range hi, Option.map_some, Option.getD_some]
    cases hl : lt a i with
    | true => rw [if_pos ⟨hi, rfl⟩, wt_yes ha hno hl]; omega
    | false => rw [if_neg (by simp), wt_no hl]
theorem doneL_del (n : Nat) (out : List Nat) (a : Nat) (ha : a < n) (hno : a ∉ out) : (doneL n (out ++ [a])).set a false = doneL n out := by
  apply List.ext_getElem
  · simp [doneL]
  · intro i h1 h2
    rw [List.getElem_set]
    by_cases hi : a = i
    · subst hi; simp [doneL, hno]
    · rw [if_neg hi]
      simp [doneL, Ne.symm hi]

theorem mark_spec (n : Nat) (ab : List Nat) (hW : Words n ab) (a : Nat) (ha : a < n) (x : Int) (hx : -1 ≤ x ∧ x ≤ 1) (z : Bool) (Dn : List Bool) (hD : Dn.length = n) (W : List Int) (hw : W.length = n) (hbd : ∀ b, b < n → -1000 ≤ W.getD b 0 ∧ W.getD b 0 ≤ 1000) :
    Spec Try.prog 88 (inStI [.v (.int .i64 (a : Int)), .v (.int .i64 x), .v (.bool z), .ptr (0, 9) 0, .fp 0 [.ptr 0 (ord n ab)], .ptr (1, 9) 0] [((0, 9), .box 112 [.ref (2, 9) 0 n]), ((1, 9), .box 29 [.ref (3, 9) 0 n]), ((2, 9), .row 4 1 (bsl Dn)), ((3, 9), .row 3 1 (isl W))])
      (outStI (.tup []) [((0, 9), .box 112 [.ref (2, 9) 0 n]), ((1, 9), .box 29 [.ref (3, 9) 0 n]), ((2, 9), .row 4 1 (bsl (Dn.set a z))), ((3, 9), .row 3 1 (isl (mkW n (wlt ab) a x W n)))] [(0, 9), (1, 9), (2, 9), (3, 9)] [(0, 9), (1, 9), (2, 9), (3, 9)]) := by
  have hle := hW.le
  refine Spec.ofNI Try.func88 rfl Try.ntmps88 rfl ?_
  refine D_seq fun K1 hK1 => ?_
  refine D_region ?_
  first
    | refine DL_c (op_ldB _ inferInstance rfl rfl (rfl : _ = some (AV.ref _ _ _))) ?_
    | refine DL_c (op_ldR _ inferInstance rfl rfl (by first | rfl | exact isl_get _ _ (by omega) | exact bsl_get _ _ (by omega) | assumption) rfl) ?_
  refine DL_c (op_mv _ (rfl : _ = AV.v (.int _ _))) ?_
  refine DL_c (op_mv _ (rfl : _ = AV.v (.bool _))) ?_
  first
    | refine DL_c (op_ixR _ _ inferInstance rfl rfl rfl _ rfl (by omega) (by first | exact (Nat.zero_add _).trans (Nat.mul_one _) | exact Nat.zero_add _ | rfl | omega)) ?_
    | refine DL_c (op_ixR _ _ inferInstance rfl rfl rfl (Int.toNat _) (Int.toNat_of_nonneg (by omega)).symm (by omega) (by first | exact (Nat.zero_add _).trans (Nat.mul_one _) | exact Nat.zero_add _ | rfl | omega)) ?_
  first
    | refine DL_c (op_stB _ _ inferInstance rfl rfl rfl rfl (Nat.le_of_ble_eq_true rfl) rfl) ?_
    | refine DL_c (op_stR _ _ inferInstance rfl rfl rfl rfl rfl (by first | exact Nat.le_of_ble_eq_true rfl | (simp only [isl_len, bsl_len, psl_len, ws_len, List.length_map, mkW_len, List.length_cons, List.length_nil]; omega) | (simp; done) | (simp; omega)) rfl) ?_
  refine DL_nil (hK1 _ ?_)
  clear hK1; try clear K1
  refine D_seq fun K2 hK2 => ?_
  refine D_region ?_
  refine DL_c (op_ldF _ inferInstance rfl (rfl : _ = some (PV.ptr 0 (ord n ab))) rfl) ?_
  first
    | refine DL_c (op_nilp _ rfl rfl) ?_
    | refine DL_c (op_nilc _ rfl) ?_
  first
    | refine DL_c (op_fldP _ inferInstance rfl rfl rfl) ?_
    | refine DL_c (op_fldF _ inferInstance rfl rfl) ?_
  refine DL_c (op_ldF _ inferInstance rfl (rfl : _ = some (PV.v (.int .i64 (n : Int)))) rfl) ?_
  refine DL_c (op_mv _ (rfl : _ = AV.v (.int _ _))) ?_
  refine DL_nil (hK2 _ ?_)
  clear hK2; try clear K2
  refine D_block ?_
  refine D_loopL (α := Nat) (fun b => b ≤ n) 33 [(0, _), (1, _), (4, _), (5, _), (17, _)] [((1, 9), _), ((0, 9), _), ((2, 9), _)] (fun b => [(18, .v (.int .i64 (b : Int)))]) (fun b => [((3, 9), .row 3 1 (isl (mkW n (wlt ab) a x W b)))]) [(0, 9), (1, 9), (2, 9), (3, 9)] [(0, 9), (1, 9), (2, 9), (3, 9)] (fun b => n - b) 0 ?_ (by
    refine Le.mkJ [] [] rfl ?_ ?_ trivial ⟨rfl, rfl, rfl, rfl, trivial⟩ ?_
    · exact ⟨(iV rfl), (iV rfl), (iF rfl), (iP rfl), (iV rfl), (lvI (by first | rfl | omega | (simp; done) | (simp; omega) | assumption)), trivial⟩
    · exact ⟨(obE rfl rfl rfl), (obE rfl rfl rfl), (obE rfl rfl rfl), (obR rfl rfl rfl (by rw [mkW_zero hw])), trivial⟩
    · kernel_rfl) ?_
  · first | omega | trivial | exact ⟨by omega, by omega⟩
  intro b hb
  have hml := mkW_len n (wlt ab) a x W b
  refine D_seq fun K3 hK3 => ?_
  refine D_region ?_
  first
    | refine DL_c (op_lss _ _ rfl rfl (by assumption)) ?_
    | refine DL_c (op_lss _ _ rfl rfl rfl) ?_
  refine DL_nil (hK3 _ ?_)
  clear hK3; try clear K3
  refine D_seq fun K4 hK4 => ?_
  refine D_splitC rfl (fun hc19 => ?_) (fun hc19 => ?_)
  · skip
    refine D_skip (hK4 _ ?_)
    clear hK4; try clear K4
    refine D_seq fun K5 hK5 => ?_
    refine D_block ?_
    refine D_seq fun K6 hK6 => ?_
    refine D_region ?_
    refine DL_c (op_mv _ (rfl : _ = AV.v (.int _ _))) ?_
    refine DL_c (op_as _ (rfl : _ = AV.v (.int _ _))) ?_
    refine DL_nil (hK6 _ ?_)
    clear hK6; try clear K6
    refine D_seq fun K7 hK7 => ?_
    refine D_region ?_
    refine DL_c (op_ldF _ inferInstance rfl (rfl : _ = some (PV.ptr 0 (ord n ab))) rfl) ?_
    refine DL_c (op_mv _ (rfl : _ = AV.v (.int _ _))) ?_
    refine DL_c (op_mv _ (rfl : _ = AV.v (.int _ _))) ?_
    refine DL_c (op_callH inferInstance (by repeat' (first | exact argsLv_nil | refine argsLv_cons ?_ ?_ | exact Lv.v | exact lvI (by omega) | exact Lv.sl | exact Lv.fp | exact Lv.nil | refine Lv.agg rfl ?_ | refine Lv.fn rfl ?_ rfl ?_ | exact lv_nil | refine lv_cons ?_ ?_ | exact Lv.z0)) (lessN_spec n ab hW a b ha (by omega)) rfl rfl) ?_
    refine DL_nil (hK7 _ ?_)
    clear hK7; try clear K7
    refine D_splitC rfl (fun hc24 => ?_) (fun hc24 => ?_)
    · skip
      have hmg := mkW_get (lt := wlt ab) (a := a) (x := x) (W := W) (k := b) (show b < n by omega)
      rw [if_neg (by omega)] at hmg
      have hbb := hbd b (by omega)
      refine D_region ?_
      first
        | refine DL_c (op_ldB _ inferInstance rfl rfl (rfl : _ = some (AV.ref _ _ _))) ?_
        | refine DL_c (op_ldR _ inferInstance rfl rfl (by first | rfl | exact isl_get _ _ (by omega) | exact bsl_get _ _ (by omega) | assumption) rfl) ?_
      refine DL_c (op_mv _ (rfl : _ = AV.v (.int _ _))) ?_
      first
        | refine DL_c (op_ixR _ _ inferInstance rfl rfl rfl _ rfl (by omega) (by first | exact (Nat.zero_add _).trans (Nat.mul_one _) | exact Nat.zero_add _ | rfl | omega)) ?_
        | refine DL_c (op_ixR _ _ inferInstance rfl rfl rfl (Int.toNat _) (Int.toNat_of_nonneg (by omega)).symm (by omega) (by first | exact (Nat.zero_add _).trans (Nat.mul_one _) | exact Nat.zero_add _ | rfl | omega)) ?_
      first
        | refine DL_c (op_ldR _ inferInstance rfl rfl (by first | rfl | exact isl_get _ _ (by omega) | exact bsl_get _ _ (by omega) | assumption) rfl) ?_
        | refine DL_c (op_ldB _ inferInstance rfl rfl (rfl : _ = some (AV.v (.int _ _)))) ?_
      refine DL_c (op_mv _ (rfl : _ = AV.v (.int _ _))) ?_
      first
        | refine DL_c (op_add _ _ rfl rfl (i64w (by omega))) ?_
        | refine DL_c (op_add _ _ rfl rfl rfl) ?_
      first
        | refine DL_c (op_ixR _ _ inferInstance rfl rfl rfl _ rfl (by omega) (by first | exact (Nat.zero_add _).trans (Nat.mul_one _) | exact Nat.zero_add _ | rfl | omega)) ?_
        | refine DL_c (op_ixR _ _ inferInstance rfl rfl rfl (Int.toNat _) (Int.toNat_of_nonneg (by omega)).symm (by omega) (by first | exact (Nat.zero_add _).trans (Nat.mul_one _) | exact Nat.zero_add _ | rfl | omega)) ?_
      first
        | refine DL_c (op_stB _ _ inferInstance rfl rfl rfl rfl (Nat.le_of_ble_eq_true rfl) rfl) ?_
        | refine DL_c (op_stR _ _ inferInstance rfl rfl rfl rfl rfl (by first | exact Nat.le_of_ble_eq_true rfl | (simp only [isl_len, bsl_len, psl_len, ws_len, List.length_map, mkW_len, List.length_cons, List.length_nil]; omega) | (simp; done) | (simp; omega)) rfl) ?_
      refine DL_nil (hK5 _ ?_)
      clear hK5; try clear K5
      refine D_le (σ' := mkStI 33 [(0, _), (1, _), (4, _), (5, _), (17, _), (18, _)] [((1, 9), _), ((3, 9), _), ((0, 9), _), ((2, 9), _)] [(0, 9), (1, 9), (2, 9), (3, 9)] [(0, 9), (1, 9), (2, 9), (3, 9)]) (by
        refine Le.mkJ [] [] rfl ?_ ?_ trivial ⟨rfl, rfl, rfl, rfl, trivial⟩ ?_
        · exact ⟨(iV rfl), (iV rfl), (iF rfl), (iP rfl), (iV rfl), (iV rfl), trivial⟩
        · exact ⟨(obE rfl rfl rfl), (obE rfl rfl rfl), (obE rfl rfl rfl), (obE rfl rfl rfl), trivial⟩
        · kernel_rfl) ?_
      refine D_region ?_
      first
        | refine DL_c (op_add _ _ rfl rfl (i64w (by omega))) ?_
        | refine DL_c (op_add _ _ rfl rfl rfl) ?_
      refine DL_c (op_mv _ (rfl : _ = AV.v (.int _ _))) ?_
      refine DL_nil ?_
      refine ⟨b + 1, ?_, ?_, ?_⟩
      · first | omega | trivial | exact ⟨by omega, by omega⟩
      · skip
        refine Le.mkJ [] [] rfl ?_ ?_ trivial ⟨rfl, rfl, rfl, rfl, trivial⟩ ?_
        · exact ⟨(iV rfl), (iV rfl), (iF rfl), (iP rfl), (iV rfl), (lvI (by first | rfl | omega | (simp; done) | (simp; omega) | assumption)), trivial⟩
        · exact ⟨(obE rfl rfl rfl), (obE rfl rfl rfl), (obE rfl rfl rfl), (obR rfl rfl rfl (by rw [← mkW_yes (by omega) hc24]; exact (isl_put _ _ _ (by simp; omega)).symm)), trivial⟩
        · kernel_rfl
      · omega
    · skip
      refine D_skip (hK5 _ ?_)
      clear hK5; try clear K5
      refine D_region ?_
      first
        | refine DL_c (op_add _ _ rfl rfl (i64w (by omega))) ?_
        | refine DL_c (op_add _ _ rfl rfl rfl) ?_
      refine DL_c (op_mv _ (rfl : _ = AV.v (.int _ _))) ?_
      refine DL_nil ?_
      refine ⟨b + 1, ?_, ?_, ?_⟩
      · first | omega | trivial | exact ⟨by omega, by omega⟩
      · skip
        refine Le.mkJ [] [] rfl ?_ ?_ trivial ⟨rfl, rfl, rfl, rfl, trivial⟩ ?_
        · exact ⟨(iV rfl), (iV rfl), (iF rfl), (iP rfl), (iV rfl), (lvI (by first | rfl | omega | (simp; done) | (simp; omega) | assumption)), trivial⟩
        · exact ⟨(obE rfl rfl rfl), (obE rfl rfl rfl), (obE rfl rfl rfl), (obR rfl rfl rfl (by rw [mkW_no hc24])), trivial⟩
        · kernel_rfl
      · omega
  · skip
    obtain rfl : n = b := by omega
    refine D_exit ?_
    refine id ?_
    exact ret0 (.inl rfl) rfl (Le.outI [] [] (.tup rfl lv_nil) rfl rfl rfl trivial ⟨⟨rfl, ⟨_, rfl, .box rfl (lv_cons (lvRr rfl rfl) lv_nil)⟩, rfl⟩, ⟨rfl, ⟨_, rfl, .box rfl (lv_cons (lvRr rfl rfl) lv_nil)⟩, rfl⟩, ⟨rfl, ⟨_, rfl, .rowE (bsl_put _ _ _ (by omega))⟩, rfl⟩, ⟨rfl, ⟨_, rfl, .rowE rfl⟩, rfl⟩, trivial⟩ ⟨rfl, rfl, rfl, rfl, trivial⟩ rfl)
end Go.Proofs.Ytkbkmngbenohkaa
