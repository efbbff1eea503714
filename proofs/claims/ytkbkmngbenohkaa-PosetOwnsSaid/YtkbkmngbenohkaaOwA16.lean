/- Extensions by the machine: the search. -/
import Derived.Test.YtkbkmngbenohkaaOwA15
import Derived.Test.YtkbkmngbenohkaaOwM6
set_option linter.unusedSimpArgs false
set_option linter.unusedVariables false
namespace Go.Proofs.Ytkbkmngbenohkaa
open Go.RowKit

abbrev exO (n : Nat) (ab : List Nat) (most : Nat) (c : Nat) (Dn : List Bool) (W : List Int) : List (Oid × Cells) :=
  [((0, 9), .box 3 [.v (.int .i64 (c : Int))]), ((1, 9), .box 112 [.ref (5, 9) 0 n]), ((2, 9), .box 29 [.ref (6, 9) 0 n]),
   ((3, 9), .box 114 [.fn (.func 88) [] [.ptr (1, 9) 0, .fp 0 [.ptr 0 (ord n ab)], .ptr (2, 9) 0]]),
   ((4, 9), .box 110 [.fn (.func 89) [] [.ptr (0, 9) 0, .fp 0 [.ptr 0 (ord n ab)], .fp 0 [.v (.int .i64 (most : Int))], .ptr (1, 9) 0, .ptr (2, 9) 0, .ptr (3, 9) 0, .ptr (4, 9) 0]]),
   ((5, 9), .row 4 1 (bsl Dn)), ((6, 9), .row 3 1 (isl W))]
abbrev exA (n : Nat) (ab : List Nat) (most : Nat) (d : Nat) : List AV :=
  [.v (.int .i64 (d : Int)), .ptr (0, 9) 0, .fp 0 [.ptr 0 (ord n ab)], .fp 0 [.v (.int .i64 (most : Int))], .ptr (1, 9) 0, .ptr (2, 9) 0, .ptr (3, 9) 0, .ptr (4, 9) 0]
abbrev exI : List Oid := [(0, 9), (1, 9), (2, 9), (3, 9), (4, 9), (5, 9), (6, 9)]
theorem search_last (n : Nat) (ab : List Nat) (hW : Words n ab) (most c : Nat) (hm : most ≤ 4611686018427387904) (hc : c < most) (out : List Nat) :
    Spec Try.prog 89 (inStI (exA n ab most 0) (exO n ab most c (doneL n out) (nl (wtL n (wlt ab) out))))
      (outStI (.tup []) (exO n ab most (c + 1) (doneL n out) (nl (wtL n (wlt ab) out))) exI exI) := by
  have hle := hW.le
  refine Spec.ofNI Try.func89 rfl Try.ntmps89 rfl ?_
  refine D_seq fun K1 hK1 => ?_
  refine D_seq fun K2 hK2 => ?_
  refine D_region ?_
  refine DL_c (op_mv _ (rfl : _ = AV.v (.int _ _))) ?_
  first
    | refine DL_c (op_eql _ _ rfl rfl (by assumption)) ?_
    | refine DL_c (op_eql _ _ rfl rfl rfl) ?_
  refine DL_nil (hK2 _ ?_)
  clear hK2; try clear K2
  refine D_splitC rfl (fun hc11 => ?_) (fun hc11 => ?_)
  · skip
    refine D_region ?_
    first
      | refine DL_c (op_ldB _ inferInstance rfl rfl (rfl : _ = some (AV.v (.int _ _)))) ?_
      | refine DL_c (op_ldR _ inferInstance rfl rfl (by first | rfl | exact isl_get _ _ (by omega) | exact bsl_get _ _ (by omega) | assumption) rfl) ?_
    first
      | refine DL_c (op_add _ _ rfl rfl (i64w (by omega))) ?_
      | refine DL_c (op_add _ _ rfl rfl rfl) ?_
    refine DL_c (op_stB _ _ inferInstance rfl rfl rfl rfl (Nat.le_of_ble_eq_true rfl) rfl) ?_
    refine DL_nil (hK1 _ ?_)
    clear hK1; try clear K1
    refine D_seq fun K3 hK3 => ?_
    refine D_region ?_
    refine DL_c (op_as _ (rfl : _ = AV.v (.int _ _))) ?_
    refine DL_nil (hK3 _ ?_)
    clear hK3; try clear K3
    refine D_block ?_
    refine D_loopL (α := Nat) (fun a => a ≤ n) 53 [(0, _), (1, _), (2, _), (3, _), (4, _), (5, _), (6, _), (7, _)] [((1, 9), _), ((2, 9), _), ((3, 9), _), ((4, 9), _), ((5, 9), _), ((6, 9), _)] (fun a => [(9, .v (.int .i64 (a : Int)))]) (fun a => [((0, 9), .box 3 [.v (.int .i64 ((c : Int) + 1))])]) [(0, 9), (1, 9), (2, 9), (3, 9), (4, 9), (5, 9), (6, 9)] [(0, 9), (1, 9), (2, 9), (3, 9), (4, 9), (5, 9), (6, 9)] (fun a => n - a) 0 ?_ (by
      refine Le.mkJ [] [] rfl ?_ ?_ trivial ⟨rfl, rfl, rfl, rfl, rfl, rfl, rfl, trivial⟩ ?_
      · exact ⟨(iV rfl), (iP rfl), (iF rfl), (iF rfl), (iP rfl), (iP rfl), (iP rfl), (iP rfl), (lvI (by first | rfl | omega | (simp; done) | (simp; omega) | assumption)), trivial⟩
      · exact ⟨(obE rfl rfl rfl), (obE rfl rfl rfl), (obE rfl rfl rfl), (obE rfl rfl rfl), (obE rfl rfl rfl), (obE rfl rfl rfl), (obB rfl rfl rfl rfl (lv_cons (lvI (by first | rfl | omega | (simp; done) | (simp; omega) | assumption)) lv_nil)), trivial⟩
      · kernel_rfl) ?_
    · first | omega | trivial | exact ⟨by omega, by omega⟩
    intro a ha
    refine D_seq fun K4 hK4 => ?_
    refine D_seq fun K5 hK5 => ?_
    refine D_region ?_
    refine DL_c (op_mv _ (rfl : _ = AV.v (.int _ _))) ?_
    refine DL_c (op_ldF _ inferInstance rfl (rfl : _ = some (PV.ptr 0 (ord n ab))) rfl) ?_
    first
      | refine DL_c (op_nilp _ rfl rfl) ?_
      | refine DL_c (op_nilc _ rfl) ?_
    first
      | refine DL_c (op_fldP _ inferInstance rfl rfl rfl) ?_
      | refine DL_c (op_fldF _ inferInstance rfl rfl) ?_
    refine DL_c (op_ldF _ inferInstance rfl (rfl : _ = some (PV.v (.int .i64 (n : Int)))) rfl) ?_
    first
      | refine DL_c (op_lss _ _ rfl rfl (by assumption)) ?_
      | refine DL_c (op_lss _ _ rfl rfl rfl) ?_
    refine DL_c (op_mv _ (rfl : _ = AV.v (.bool _))) ?_
    refine DL_caseC (fun hg20 => ?_) (fun hg20 => ?_)
    · skip
      refine DL_cy rfl rfl (op_mv _ (rfl : _ = AV.v (.int _ _))) ?_
      refine DL_cy rfl rfl (op_gtr (r := false) _ _ rfl rfl rfl) ?_
      refine DL_c (op_pick _ _ _ rfl (rfl : _ = AV.v (.bool _))) ?_
      refine DL_c (op_mv _ (rfl : _ = AV.v (.bool _))) ?_
      refine DL_cn rfl rfl (by decide) ?_
      refine DL_cn rfl rfl (by decide) ?_
      refine DL_cn rfl rfl (by decide) ?_
      refine DL_c (op_pick _ _ _ rfl (rfl : _ = AV.v (.bool _))) ?_
      refine DL_nil (hK5 _ ?_)
      clear hK5; try clear K5
      refine D_cF rfl rfl ?_
      refine D_exit ?_
      refine id ?_
      exact ret0 (.inl rfl) rfl (Le.outI [] [] (.tup rfl lv_nil) rfl rfl rfl trivial ⟨⟨rfl, ⟨_, rfl, .box rfl (lv_cons (lvI (by omega)) lv_nil)⟩, rfl⟩, ⟨rfl, ⟨_, rfl, lvO_id _⟩, rfl⟩, ⟨rfl, ⟨_, rfl, lvO_id _⟩, rfl⟩, ⟨rfl, ⟨_, rfl, lvO_id _⟩, rfl⟩, ⟨rfl, ⟨_, rfl, lvO_id _⟩, rfl⟩, ⟨rfl, ⟨_, rfl, lvO_id _⟩, rfl⟩, ⟨rfl, ⟨_, rfl, lvO_id _⟩, rfl⟩, trivial⟩ ⟨rfl, rfl, rfl, rfl, rfl, rfl, rfl, trivial⟩ rfl)
    · skip
      refine DL_cn rfl rfl (by decide) ?_
      refine DL_cn rfl rfl (by decide) ?_
      refine DL_c (op_pick _ _ _ rfl (rfl : _ = AV.v (.bool _))) ?_
      refine DL_c (op_mv _ (rfl : _ = AV.v (.bool _))) ?_
      refine DL_cn rfl rfl (by decide) ?_
      refine DL_cn rfl rfl (by decide) ?_
      refine DL_cn rfl rfl (by decide) ?_
      refine DL_c (op_pick _ _ _ rfl (rfl : _ = AV.v (.bool _))) ?_
      refine DL_nil (hK5 _ ?_)
      clear hK5; try clear K5
      refine D_cF rfl rfl ?_
      refine D_exit ?_
      refine id ?_
      exact ret0 (.inl rfl) rfl (Le.outI [] [] (.tup rfl lv_nil) rfl rfl rfl trivial ⟨⟨rfl, ⟨_, rfl, .box rfl (lv_cons (lvI (by omega)) lv_nil)⟩, rfl⟩, ⟨rfl, ⟨_, rfl, lvO_id _⟩, rfl⟩, ⟨rfl, ⟨_, rfl, lvO_id _⟩, rfl⟩, ⟨rfl, ⟨_, rfl, lvO_id _⟩, rfl⟩, ⟨rfl, ⟨_, rfl, lvO_id _⟩, rfl⟩, ⟨rfl, ⟨_, rfl, lvO_id _⟩, rfl⟩, ⟨rfl, ⟨_, rfl, lvO_id _⟩, rfl⟩, trivial⟩ ⟨rfl, rfl, rfl, rfl, rfl, rfl, rfl, trivial⟩ rfl)
  · skip
    exact absurd  hc11 (by simp)
theorem nl_get {l : List Nat} {k : Nat} : (nl l).getD k 0 = ((l.getD k 0 : Nat) : Int) := by
  simp only [nl, List.getD_eq_getElem?_getD, List.getElem?_map]
  cases l[k]? <;> rfl
theorem nl_bd {n : Nat} {lt : Lt} {out : List Nat} (hn : n ≤ 64) (b : Nat) (h : b < n) : -1000 ≤ (nl (wtL n lt out)).getD b 0 ∧ (nl (wtL n lt out)).getD b 0 ≤ 1000 := by
  rw [nl_get, wtL_get _ _ _ _ h]
  have := wt_le n lt out b
  omega
@[simp] theorem nl_len (l : List Nat) : (nl l).length = l.length := by simp [nl]
set_option maxHeartbeats 1000000 in
theorem search_step (n : Nat) (ab : List Nat) (hW : Words n ab) (most c : Nat) (hm : most ≤ 4611686018427387904) (hc : c < most) (d : Nat) (out : List Nat) (hd : d < n)
    (ih : ∀ (c : Nat) (out : List Nat), c < most → Spec Try.prog 89 (inStI (exA n ab most d) (exO n ab most c (doneL n out) (nl (wtL n (wlt ab) out))))
      (outStI (.tup []) (exO n ab most (upto most c (extN n (wlt ab) d out)) (doneL n out) (nl (wtL n (wlt ab) out))) exI exI)) :
    Spec Try.prog 89 (inStI (exA n ab most (d + 1)) (exO n ab most c (doneL n out) (nl (wtL n (wlt ab) out))))
      (outStI (.tup []) (exO n ab most (upto most c (extN n (wlt ab) (d + 1) out)) (doneL n out) (nl (wtL n (wlt ab) out))) exI exI) := by
  have hle := hW.le
  have hdl := doneL_len n out
  have hwl : (nl (wtL n (wlt ab) out)).length = n := by simp [wtL]
  refine Spec.ofNI Try.func89 rfl Try.ntmps89 rfl ?_
  refine D_seq fun K1 hK1 => ?_
  refine D_seq fun K2 hK2 => ?_
  refine D_region ?_
  refine DL_c (op_mv _ (rfl : _ = AV.v (.int _ _))) ?_
  first
    | refine DL_c (op_eql _ _ rfl rfl (by assumption)) ?_
    | refine DL_c (op_eql _ _ rfl rfl rfl) ?_
  refine DL_nil (hK2 _ ?_)
  clear hK2; try clear K2
  refine D_splitC rfl (fun hc11 => ?_) (fun hc11 => ?_)
  · skip
    exact absurd  hc11 (by omega)
  · skip
    refine D_skip (hK1 _ ?_)
    clear hK1; try clear K1
    refine D_seq fun K3 hK3 => ?_
    refine D_region ?_
    refine DL_c (op_as _ (rfl : _ = AV.v (.int _ _))) ?_
    refine DL_nil (hK3 _ ?_)
    clear hK3; try clear K3
    refine D_block ?_
    refine D_loopL (α := Nat) (fun a => a ≤ n) 53 [(0, _), (1, _), (2, _), (3, _), (4, _), (5, _), (6, _), (7, _)] [((1, 9), _), ((2, 9), _), ((3, 9), _), ((4, 9), _)] (fun a => [(9, .v (.int .i64 (a : Int)))]) (fun a => [((0, 9), .box 3 [.v (.int .i64 ((upto most c (extK n (wlt ab) d out a) : Nat) : Int))]), ((5, 9), .row 4 1 (bsl (doneL n out))), ((6, 9), .row 3 1 (isl (nl (wtL n (wlt ab) out))))]) [(0, 9), (1, 9), (2, 9), (3, 9), (4, 9), (5, 9), (6, 9)] [(0, 9), (1, 9), (2, 9), (3, 9), (4, 9), (5, 9), (6, 9)] (fun a => n - a) 0 ?_ (by
      refine Le.mkJ [] [] rfl ?_ ?_ trivial ⟨rfl, rfl, rfl, rfl, rfl, rfl, rfl, trivial⟩ ?_
      · exact ⟨(iV rfl), (iP rfl), (iF rfl), (iF rfl), (iP rfl), (iP rfl), (iP rfl), (iP rfl), (lvI (by first | rfl | omega | (simp; done) | (simp; omega) | assumption)), trivial⟩
      · exact ⟨(obE rfl rfl rfl), (obE rfl rfl rfl), (obE rfl rfl rfl), (obE rfl rfl rfl), (obB rfl rfl rfl rfl (lv_cons (lvI (by rw [extK_zero]; unfold upto; omega)) lv_nil)), (obR rfl rfl rfl (by first | rfl | omega | (simp; done) | (simp; omega) | assumption)), (obR rfl rfl rfl (by first | rfl | omega | (simp; done) | (simp; omega) | assumption)), trivial⟩
      · kernel_rfl) ?_
    · first | omega | trivial | exact ⟨by omega, by omega⟩
    intro a ha
    have hup : upto most c (extK n (wlt ab) d out a) ≤ most := Nat.min_le_left _ _
    refine D_seq fun K4 hK4 => ?_
    refine D_seq fun K5 hK5 => ?_
    refine D_region ?_
    refine DL_c (op_mv _ (rfl : _ = AV.v (.int _ _))) ?_
    refine DL_c (op_ldF _ inferInstance rfl (rfl : _ = some (PV.ptr 0 (ord n ab))) rfl) ?_
    first
      | refine DL_c (op_nilp _ rfl rfl) ?_
      | refine DL_c (op_nilc _ rfl) ?_
    first
      | refine DL_c (op_fldP _ inferInstance rfl rfl rfl) ?_
      | refine DL_c (op_fldF _ inferInstance rfl rfl) ?_
    refine DL_c (op_ldF _ inferInstance rfl (rfl : _ = some (PV.v (.int .i64 (n : Int)))) rfl) ?_
    first
      | refine DL_c (op_lss _ _ rfl rfl (by assumption)) ?_
      | refine DL_c (op_lss _ _ rfl rfl rfl) ?_
    refine DL_c (op_mv _ (rfl : _ = AV.v (.bool _))) ?_
    refine DL_caseC (fun hg20 => ?_) (fun hg20 => ?_)
    · skip
      have hdg := doneL_get n out a (by omega)
      have hfi := free_iff (n := n) (lt := wlt ab) (out := out) (a := a)
      have hwg := wtL_get n (wlt ab) out a (by omega)
      have hng := nl_get (l := wtL n (wlt ab) out) (k := a)
      refine DL_cy rfl rfl (op_mv _ (rfl : _ = AV.v (.int _ _))) ?_
      refine DL_cy rfl rfl (op_gtr (r := true) _ _ rfl rfl (decide_eq_true (by omega))) ?_
      refine DL_c (op_pick _ _ _ rfl (rfl : _ = AV.v (.bool _))) ?_
      refine DL_c (op_mv _ (rfl : _ = AV.v (.bool _))) ?_
      first
        | refine DL_cy rfl rfl (op_ldB _ inferInstance rfl rfl (rfl : _ = some (AV.v (.int _ _)))) ?_
        | refine DL_cy rfl rfl (op_ldR _ inferInstance rfl rfl (by first | rfl | exact isl_get _ _ (by omega) | exact bsl_get _ _ (by omega) | assumption) rfl) ?_
      refine DL_cy rfl rfl (op_ldF _ inferInstance rfl (rfl : _ = some (PV.v (.int .i64 (most : Int)))) rfl) ?_
      first
        | refine DL_cy rfl rfl (op_lss _ _ rfl rfl (by assumption)) ?_
        | refine DL_cy rfl rfl (op_lss _ _ rfl rfl rfl) ?_
      refine DL_c (op_pick _ _ _ rfl (rfl : _ = AV.v (.bool _))) ?_
      refine DL_nil (hK5 _ ?_)
      clear hK5; try clear K5
      refine D_splitC rfl (fun hc28 => ?_) (fun hc28 => ?_)
      · skip
        refine D_skip (hK4 _ ?_)
        clear hK4; try clear K4
        refine D_seq fun K6 hK6 => ?_
        refine D_block ?_
        refine D_seq fun K7 hK7 => ?_
        refine D_le (σ' := mkStI 53 [(0, _), (1, _), (2, _), (3, _), (4, _), (5, _), (6, _), (7, _), (9, _)] [((1, 9), _), ((2, 9), _), ((3, 9), _), ((4, 9), _), ((0, 9), _), ((5, 9), _), ((6, 9), _)] [(0, 9), (1, 9), (2, 9), (3, 9), (4, 9), (5, 9), (6, 9)] [(0, 9), (1, 9), (2, 9), (3, 9), (4, 9), (5, 9), (6, 9)]) (by
          refine Le.mkJ [] [] rfl ?_ ?_ trivial ⟨rfl, rfl, rfl, rfl, rfl, rfl, rfl, trivial⟩ ?_
          · exact ⟨(iV rfl), (iP rfl), (iF rfl), (iF rfl), (iP rfl), (iP rfl), (iP rfl), (iP rfl), (iV rfl), trivial⟩
          · exact ⟨(obE rfl rfl rfl), (obE rfl rfl rfl), (obE rfl rfl rfl), (obE rfl rfl rfl), (obE rfl rfl rfl), (obE rfl rfl rfl), (obE rfl rfl rfl), trivial⟩
          · kernel_rfl) ?_
        refine D_region ?_
        first
          | refine DL_c (op_ldB _ inferInstance rfl rfl (rfl : _ = some (AV.ref _ _ _))) ?_
          | refine DL_c (op_ldR _ inferInstance rfl rfl (by first | rfl | exact isl_get _ _ (by omega) | exact bsl_get _ _ (by omega) | assumption) rfl) ?_
        refine DL_c (op_mv _ (rfl : _ = AV.v (.int _ _))) ?_
        first
          | refine DL_c (op_ixR _ _ inferInstance rfl rfl rfl _ rfl (by omega) (by first | exact (Nat.zero_add _).trans (Nat.mul_one _) | exact Nat.zero_add _ | rfl | omega)) ?_
          | refine DL_c (op_ixR _ _ inferInstance rfl rfl rfl (Int.toNat _) (Int.toNat_of_nonneg (by omega)).symm (by omega) (by first | exact (Nat.zero_add _).trans (Nat.mul_one _) | exact Nat.zero_add _ | rfl | omega)) ?_
        first
          | refine DL_c (op_ldR _ inferInstance rfl rfl (by first | rfl | exact isl_get _ _ (by omega) | exact bsl_get _ _ (by omega) | assumption) rfl) ?_
          | refine DL_c (op_ldB _ inferInstance rfl rfl (rfl : _ = some (AV.v (.bool _)))) ?_
        refine DL_c (op_not _ rfl rfl) ?_
        refine DL_c (op_mv _ (rfl : _ = AV.v (.bool _))) ?_
        refine DL_caseC (fun hg36 => ?_) (fun hg36 => ?_)
        · skip
          first
            | refine DL_cy rfl rfl (op_ldB _ inferInstance rfl rfl (rfl : _ = some (AV.ref _ _ _))) ?_
            | refine DL_cy rfl rfl (op_ldR _ inferInstance rfl rfl (by first | rfl | exact isl_get _ _ (by omega) | exact bsl_get _ _ (by omega) | assumption) rfl) ?_
          refine DL_cy rfl rfl (op_mv _ (rfl : _ = AV.v (.int _ _))) ?_
          first
            | refine DL_cy rfl rfl (op_ixR _ _ inferInstance rfl rfl rfl _ rfl (by omega) (by first | exact (Nat.zero_add _).trans (Nat.mul_one _) | exact Nat.zero_add _ | rfl | omega)) ?_
            | refine DL_cy rfl rfl (op_ixR _ _ inferInstance rfl rfl rfl (Int.toNat _) (Int.toNat_of_nonneg (by omega)).symm (by omega) (by first | exact (Nat.zero_add _).trans (Nat.mul_one _) | exact Nat.zero_add _ | rfl | omega)) ?_
          first
            | refine DL_cy rfl rfl (op_ldR _ inferInstance rfl rfl (by first | rfl | exact isl_get _ _ (by omega) | exact bsl_get _ _ (by omega) | assumption) rfl) ?_
            | refine DL_cy rfl rfl (op_ldB _ inferInstance rfl rfl (rfl : _ = some (AV.v (.int _ _)))) ?_
          first
            | refine DL_cy rfl rfl (op_eql _ _ rfl rfl (by assumption)) ?_
            | refine DL_cy rfl rfl (op_eql _ _ rfl rfl rfl) ?_
          refine DL_c (op_pick _ _ _ rfl (rfl : _ = AV.v (.bool _))) ?_
          refine DL_nil (hK7 _ ?_)
          clear hK7; try clear K7
          refine D_splitC rfl (fun hc42 => ?_) (fun hc42 => ?_)
          · skip
            have hyes : isfree n (wlt ab) out a = true := by rw [hfi, ← hdg, hg36, decide_eq_true (by omega)]; rfl
            have hnot : a ∉ out := (isfree_iff.1 hyes).1
            have hky := extK_yes (d := d) hyes
            have hup2 : upto most (upto most c (extK n (wlt ab) d out a)) (extN n (wlt ab) d (out ++ [a])) = upto most c (extK n (wlt ab) d out (a + 1)) := by rw [hky]; unfold upto at *; omega
            refine D_seq fun K8 hK8 => ?_
            refine D_region ?_
            first
              | refine DL_c (op_ldB _ inferInstance rfl rfl (rfl : _ = some (AV.fn _ _ _))) ?_
              | refine DL_c (op_ldR _ inferInstance rfl rfl (by first | rfl | exact isl_get _ _ (by omega) | exact bsl_get _ _ (by omega) | assumption) rfl) ?_
            refine DL_c (op_mv _ (rfl : _ = AV.v (.int _ _))) ?_
            refine DL_c (op_callRV rfl inferInstance [((0, 9), (1, 9)), ((1, 9), (2, 9)), ((2, 9), (5, 9)), ((3, 9), (6, 9))] ?_ (mark_spec n ab hW a (by omega) (-1) (by omega) true (doneL n out) hdl (nl (wtL n (wlt ab) out)) hwl (nl_bd hle)) ⟨⟨rfl, ⟨_, rfl, .box rfl (lv_cons (lvRr rfl rfl) lv_nil)⟩, rfl⟩, ⟨rfl, ⟨_, rfl, .box rfl (lv_cons (lvRr rfl rfl) lv_nil)⟩, rfl⟩, ⟨rfl, ⟨_, rfl, .rowE rfl⟩, rfl⟩, ⟨rfl, ⟨_, rfl, .rowE rfl⟩, rfl⟩, trivial⟩ ⟨rfl, rfl, rfl, rfl, trivial⟩ (by kernel_rfl)) ?_
            · repeat' (first | exact argsR_nil | refine argsR_cons ?_ ?_ | exact Lv.v | exact lvI (by assumption) | exact lvI (by omega) | exact Lv.sl | exact Lv.fp | exact Lv.nil | exact lvRr rfl rfl | exact lvPr rfl | refine Lv.agg rfl ?_ | refine Lv.fn rfl ?_ rfl ?_ | refine Lv.ifc ?_ | exact lv_nil | refine lv_cons ?_ ?_)
            refine DL_nil (hK8 _ ?_)
            clear hK8; try clear K8
            refine D_seq fun K9 hK9 => ?_
            refine D_le (σ' := mkStI 53 [(0, _), (1, _), (2, _), (3, _), (4, _), (5, _), (6, _), (7, _), (9, _)] [((1, 9), _), ((2, 9), _), ((3, 9), _), ((4, 9), _), ((0, 9), _), ((5, 9), _), ((6, 9), _)] [(0, 9), (1, 9), (2, 9), (3, 9), (4, 9), (5, 9), (6, 9)] [(0, 9), (1, 9), (2, 9), (3, 9), (4, 9), (5, 9), (6, 9)]) (by
              refine Le.mkJ [] [] rfl ?_ ?_ trivial ⟨rfl, rfl, rfl, rfl, rfl, rfl, rfl, trivial⟩ ?_
              · exact ⟨(iV rfl), (iP rfl), (iF rfl), (iF rfl), (iP rfl), (iP rfl), (iP rfl), (iP rfl), (iV rfl), trivial⟩
              · exact ⟨(obE rfl rfl rfl), (obE rfl rfl rfl), (obE rfl rfl rfl), (obE rfl rfl rfl), (obE rfl rfl rfl), (obE rfl rfl rfl), (obE rfl rfl rfl), trivial⟩
              · kernel_rfl) ?_
            refine D_region ?_
            first
              | refine DL_c (op_ldB _ inferInstance rfl rfl (rfl : _ = some (AV.fn _ _ _))) ?_
              | refine DL_c (op_ldR _ inferInstance rfl rfl (by first | rfl | exact isl_get _ _ (by omega) | exact bsl_get _ _ (by omega) | assumption) rfl) ?_
            refine DL_c (op_mv _ (rfl : _ = AV.v (.int _ _))) ?_
            first
              | refine DL_c (op_sub _ _ rfl rfl (i64w (by omega))) ?_
              | refine DL_c (op_sub _ _ rfl rfl rfl) ?_
            refine DL_c (op_callRV rfl inferInstance [] ?_ (ih (upto most c (extK n (wlt ab) d out a)) (out ++ [a]) (by omega)) ⟨⟨rfl, ⟨_, rfl, lvO_id _⟩, rfl⟩, ⟨rfl, ⟨_, rfl, lvO_id _⟩, rfl⟩, ⟨rfl, ⟨_, rfl, lvO_id _⟩, rfl⟩, ⟨rfl, ⟨_, rfl, lvO_id _⟩, rfl⟩, ⟨rfl, ⟨_, rfl, lvO_id _⟩, rfl⟩, ⟨rfl, ⟨_, rfl, .rowE (congrArg bsl (doneL_add n out a (by omega)))⟩, rfl⟩, ⟨rfl, ⟨_, rfl, .rowE (congrArg isl (mkW_down (by omega) hnot))⟩, rfl⟩, trivial⟩ ⟨rfl, rfl, rfl, rfl, rfl, rfl, rfl, trivial⟩ (by kernel_rfl)) ?_
            · repeat' (first | exact argsR_nil | refine argsR_cons ?_ ?_ | exact Lv.v | exact lvI (by assumption) | exact lvI (by omega) | exact Lv.sl | exact Lv.fp | exact Lv.nil | exact lvRr rfl rfl | exact lvPr rfl | refine Lv.agg rfl ?_ | refine Lv.fn rfl ?_ rfl ?_ | refine Lv.ifc ?_ | exact lv_nil | refine lv_cons ?_ ?_)
            refine DL_nil (hK9 _ ?_)
            clear hK9; try clear K9
            refine D_region ?_
            first
              | refine DL_c (op_ldB _ inferInstance rfl rfl (rfl : _ = some (AV.fn _ _ _))) ?_
              | refine DL_c (op_ldR _ inferInstance rfl rfl (by first | rfl | exact isl_get _ _ (by omega) | exact bsl_get _ _ (by omega) | assumption) rfl) ?_
            refine DL_c (op_mv _ (rfl : _ = AV.v (.int _ _))) ?_
            refine DL_c (op_callRV rfl inferInstance [((0, 9), (1, 9)), ((1, 9), (2, 9)), ((2, 9), (5, 9)), ((3, 9), (6, 9))] ?_ (mark_spec n ab hW a (by omega) 1 (by omega) false (doneL n (out ++ [a])) (doneL_len n _) (nl (wtL n (wlt ab) (out ++ [a]))) (by simp [wtL]) (nl_bd hle)) ⟨⟨rfl, ⟨_, rfl, .box rfl (lv_cons (lvRr rfl rfl) lv_nil)⟩, rfl⟩, ⟨rfl, ⟨_, rfl, .box rfl (lv_cons (lvRr rfl rfl) lv_nil)⟩, rfl⟩, ⟨rfl, ⟨_, rfl, .rowE rfl⟩, rfl⟩, ⟨rfl, ⟨_, rfl, .rowE rfl⟩, rfl⟩, trivial⟩ ⟨rfl, rfl, rfl, rfl, trivial⟩ (by kernel_rfl)) ?_
            · repeat' (first | exact argsR_nil | refine argsR_cons ?_ ?_ | exact Lv.v | exact lvI (by assumption) | exact lvI (by omega) | exact Lv.sl | exact Lv.fp | exact Lv.nil | exact lvRr rfl rfl | exact lvPr rfl | refine Lv.agg rfl ?_ | refine Lv.fn rfl ?_ rfl ?_ | refine Lv.ifc ?_ | exact lv_nil | refine lv_cons ?_ ?_)
            refine DL_nil (hK6 _ ?_)
            clear hK6; try clear K6
            refine D_region ?_
            refine DL_c (op_mv _ (rfl : _ = AV.v (.int _ _))) ?_
            first
              | refine DL_c (op_add _ _ rfl rfl (i64w (by omega))) ?_
              | refine DL_c (op_add _ _ rfl rfl rfl) ?_
            refine DL_c (op_as _ (rfl : _ = AV.v (.int _ _))) ?_
            refine DL_nil ?_
            refine ⟨a + 1, ?_, ?_, ?_⟩
            · first | omega | trivial | exact ⟨by omega, by omega⟩
            · skip
              refine Le.mkJ [] [] rfl ?_ ?_ trivial ⟨rfl, rfl, rfl, rfl, rfl, rfl, rfl, trivial⟩ ?_
              · exact ⟨(iV rfl), (iP rfl), (iF rfl), (iF rfl), (iP rfl), (iP rfl), (iP rfl), (iP rfl), (lvI (by first | rfl | omega | (simp; done) | (simp; omega) | assumption)), trivial⟩
              · exact ⟨(obE rfl rfl rfl), (obE rfl rfl rfl), (obE rfl rfl rfl), (obE rfl rfl rfl), (obB rfl rfl rfl rfl (lv_cons (lvI (by rw [hup2])) lv_nil)), (obR rfl rfl rfl (by rw [doneL_del n out a (by omega) hnot])), (obR rfl rfl rfl (by rw [mkW_up (by omega) hnot])), trivial⟩
              · kernel_rfl
            · omega
          · skip
            have hno : isfree n (wlt ab) out a = false := by rw [hfi, decide_eq_false (by omega)]; simp
            refine D_skip (hK6 _ ?_)
            clear hK6; try clear K6
            refine D_region ?_
            refine DL_c (op_mv _ (rfl : _ = AV.v (.int _ _))) ?_
            first
              | refine DL_c (op_add _ _ rfl rfl (i64w (by omega))) ?_
              | refine DL_c (op_add _ _ rfl rfl rfl) ?_
            refine DL_c (op_as _ (rfl : _ = AV.v (.int _ _))) ?_
            refine DL_nil ?_
            refine ⟨a + 1, ?_, ?_, ?_⟩
            · first | omega | trivial | exact ⟨by omega, by omega⟩
            · skip
              refine Le.mkJ [] [] rfl ?_ ?_ trivial ⟨rfl, rfl, rfl, rfl, rfl, rfl, rfl, trivial⟩ ?_
              · exact ⟨(iV rfl), (iP rfl), (iF rfl), (iF rfl), (iP rfl), (iP rfl), (iP rfl), (iP rfl), (lvI (by first | rfl | omega | (simp; done) | (simp; omega) | assumption)), trivial⟩
              · exact ⟨(obE rfl rfl rfl), (obE rfl rfl rfl), (obE rfl rfl rfl), (obE rfl rfl rfl), (obB rfl rfl rfl rfl (lv_cons (lvI (by rw [extK_no hno])) lv_nil)), (obR rfl rfl rfl (by first | rfl | omega | (simp; done) | (simp; omega) | assumption)), (obR rfl rfl rfl (by first | rfl | omega | (simp; done) | (simp; omega) | assumption)), trivial⟩
              · kernel_rfl
            · omega
        · skip
          have hno : isfree n (wlt ab) out a = false := by rw [hfi, ← hdg, hg36]; rfl
          refine DL_cn rfl rfl (by decide) ?_
          refine DL_cn rfl rfl (by decide) ?_
          refine DL_cn rfl rfl (by decide) ?_
          refine DL_cn rfl rfl (by decide) ?_
          refine DL_cn rfl rfl (by decide) ?_
          refine DL_c (op_pick _ _ _ rfl (rfl : _ = AV.v (.bool _))) ?_
          refine DL_nil (hK7 _ ?_)
          clear hK7; try clear K7
          refine D_cF rfl rfl ?_
          refine D_skip (hK6 _ ?_)
          clear hK6; try clear K6
          refine D_region ?_
          refine DL_c (op_mv _ (rfl : _ = AV.v (.int _ _))) ?_
          first
            | refine DL_c (op_add _ _ rfl rfl (i64w (by omega))) ?_
            | refine DL_c (op_add _ _ rfl rfl rfl) ?_
          refine DL_c (op_as _ (rfl : _ = AV.v (.int _ _))) ?_
          refine DL_nil ?_
          refine ⟨a + 1, ?_, ?_, ?_⟩
          · first | omega | trivial | exact ⟨by omega, by omega⟩
          · skip
            refine Le.mkJ [] [] rfl ?_ ?_ trivial ⟨rfl, rfl, rfl, rfl, rfl, rfl, rfl, trivial⟩ ?_
            · exact ⟨(iV rfl), (iP rfl), (iF rfl), (iF rfl), (iP rfl), (iP rfl), (iP rfl), (iP rfl), (lvI (by first | rfl | omega | (simp; done) | (simp; omega) | assumption)), trivial⟩
            · exact ⟨(obE rfl rfl rfl), (obE rfl rfl rfl), (obE rfl rfl rfl), (obE rfl rfl rfl), (obB rfl rfl rfl rfl (lv_cons (lvI (by rw [extK_no hno])) lv_nil)), (obR rfl rfl rfl (by first | rfl | omega | (simp; done) | (simp; omega) | assumption)), (obR rfl rfl rfl (by first | rfl | omega | (simp; done) | (simp; omega) | assumption)), trivial⟩
            · kernel_rfl
          · omega
      · skip
        have hres : upto most c (extK n (wlt ab) d out a) = upto most c (extN n (wlt ab) (d + 1) out) := upto_stop (by omega) (by omega)
        refine D_exit ?_
        refine id ?_
        exact ret0 (.inl rfl) rfl (Le.outI [] [] (.tup rfl lv_nil) rfl rfl rfl trivial ⟨⟨rfl, ⟨_, rfl, .box rfl (lv_cons (lvI (by rw [hres])) lv_nil)⟩, rfl⟩, ⟨rfl, ⟨_, rfl, lvO_id _⟩, rfl⟩, ⟨rfl, ⟨_, rfl, lvO_id _⟩, rfl⟩, ⟨rfl, ⟨_, rfl, lvO_id _⟩, rfl⟩, ⟨rfl, ⟨_, rfl, lvO_id _⟩, rfl⟩, ⟨rfl, ⟨_, rfl, lvO_id _⟩, rfl⟩, ⟨rfl, ⟨_, rfl, lvO_id _⟩, rfl⟩, trivial⟩ ⟨rfl, rfl, rfl, rfl, rfl, rfl, rfl, trivial⟩ rfl)
    · skip
      obtain rfl : n = a := by omega
      have hres : upto most c (extK n (wlt ab) d out n) = upto most c (extN n (wlt ab) (d + 1) out) := by rw [extK_full]
      refine DL_cn rfl rfl (by decide) ?_
      refine DL_cn rfl rfl (by decide) ?_
      refine DL_c (op_pick _ _ _ rfl (rfl : _ = AV.v (.bool _))) ?_
      refine DL_c (op_mv _ (rfl : _ = AV.v (.bool _))) ?_
      refine DL_cn rfl rfl (by decide) ?_
      refine DL_cn rfl rfl (by decide) ?_
      refine DL_cn rfl rfl (by decide) ?_
      refine DL_c (op_pick _ _ _ rfl (rfl : _ = AV.v (.bool _))) ?_
      refine DL_nil (hK5 _ ?_)
      clear hK5; try clear K5
      refine D_cF rfl rfl ?_
      refine D_exit ?_
      refine id ?_
      exact ret0 (.inl rfl) rfl (Le.outI [] [] (.tup rfl lv_nil) rfl rfl rfl trivial ⟨⟨rfl, ⟨_, rfl, .box rfl (lv_cons (lvI (by rw [hres])) lv_nil)⟩, rfl⟩, ⟨rfl, ⟨_, rfl, lvO_id _⟩, rfl⟩, ⟨rfl, ⟨_, rfl, lvO_id _⟩, rfl⟩, ⟨rfl, ⟨_, rfl, lvO_id _⟩, rfl⟩, ⟨rfl, ⟨_, rfl, lvO_id _⟩, rfl⟩, ⟨rfl, ⟨_, rfl, lvO_id _⟩, rfl⟩, ⟨rfl, ⟨_, rfl, lvO_id _⟩, rfl⟩, trivial⟩ ⟨rfl, rfl, rfl, rfl, rfl, rfl, rfl, trivial⟩ rfl)
end Go.Proofs.Ytkbkmngbenohkaa
