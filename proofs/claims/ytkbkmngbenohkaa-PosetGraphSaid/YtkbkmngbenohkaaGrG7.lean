/- slices.Compact in general; graph.successors for pairs that may come twice. By the machine. -/
import Derived.Test.YtkbkmngbenohkaaGrG6
import Derived.Test.YtkbkmngbenohkaaGrH4
import Derived.Test.YtkbkmngbenohkaaGrM9
set_option linter.unusedSimpArgs false
set_option linter.unusedVariables false
namespace Go.Proofs.Ytkbkmngbenohkaa
open Go.RowKit

/-- The second part of Compact: behind i0 the first k elements stand. -/
structure CI (L : List Int) (i0 : Nat) (k j : Nat) (M : List Int) : Prop where
  len : M.length = L.length
  k0 : i0 ≤ k
  kj : k + 1 ≤ i0 + j
  j1 : 1 ≤ j
  jn : i0 + j ≤ L.length
  dn : M.take k = dd (L.take (i0 + j))
  rest : ∀ p, k ≤ p → M.getD p 0 = L.getD p 0
theorem CI.start {L : List Int} {i0 : Nat} (h0 : 0 < i0) (hi : i0 < L.length) (hd : dd (L.take i0) = L.take i0) (he : L.getD i0 0 = L.getD (i0 - 1) 0) : CI L i0 i0 1 L :=
  ⟨rfl, Nat.le_refl _, Nat.le_refl _, Nat.le_refl _, by omega, by rw [dd_succ h0 hi, if_pos he, hd], fun _ _ => rfl⟩
theorem CI.skip {L : List Int} {i0 k j : Nat} {M : List Int} (h : CI L i0 k j M) (h0 : 0 < i0) (hj : i0 + j < L.length) (he : L.getD (i0 + j) 0 = L.getD (i0 + j - 1) 0) : CI L i0 k (j + 1) M := by
  have := h.kj
  refine ⟨h.len, h.k0, by omega, by omega, by omega, ?_, h.rest⟩
  rw [h.dn, show i0 + (j + 1) = i0 + j + 1 by omega, dd_succ (by omega) hj, if_pos he]
theorem CI.take_ {L : List Int} {i0 k j : Nat} {M : List Int} (h : CI L i0 k j M) (h0 : 0 < i0) (hj : i0 + j < L.length) (he : L.getD (i0 + j) 0 ≠ L.getD (i0 + j - 1) 0) : CI L i0 (k + 1) (j + 1) (M.set k (L.getD (i0 + j) 0)) := by
  have hk := h.kj
  have hl := h.len
  refine ⟨by rw [List.length_set]; exact hl, by have := h.k0; omega, by omega, by omega, by omega, ?_, fun p hp => ?_⟩
  · rw [show i0 + (j + 1) = i0 + j + 1 by omega, dd_succ (by omega) hj, if_neg he, ← h.dn, take1 0 (by rw [List.length_set]; omega), getD_set, if_pos ⟨rfl, by omega⟩, List.take_set_of_le (Nat.le_refl _)]
  · rw [getD_set, if_neg (by omega)]; exact h.rest p (by omega)
theorem clr_row {M : List Int} {k n : Nat} (hM : M.length = n) (hk : k ≤ n) : ∃ zs, putL (isl M) k (List.replicate (n - k) (.v (.int .i64 0))) = isl (M.take k) ++ zs := by
  refine ⟨List.replicate (n - k) (.v (.int .i64 0)) ++ (isl M).drop (k + (List.replicate (n - k) (PV.v (Value.int IntKind.i64 0))).length), ?_⟩
  rw [putL, List.append_assoc, isl_take]
theorem compact2_spec (n : Nat) (L : List Int) (hL : L.length = n) (h1 : n ≤ 1000000) :
    Spec Try.prog 122 (inStI [.ref (0, 9) 0 n] [((0, 9), .row 3 1 (isl L))]) (outStI (.ref (0, 8) 0 (dd L).length) [((0, 8), .row 3 1 (isl (dd L)))] [(0, 8)] []) := by
  refine Spec.ofNI Try.func122 rfl Try.ntmps122 rfl ?_
  refine D_seq fun K1 hK1 => ?_
  refine D_region ?_
  first
    | refine DL_c (op_as _ (rfl : _ = AV.sl _ _)) ?_
    | refine DL_c (op_as _ (rfl : _ = AV.ref _ _ _)) ?_
    | refine DL_c (op_as _ (rfl : _ = AV.v (.slice _ _ _))) ?_
    | refine DL_c (op_as _ (rfl : _ = AV.z)) ?_
  refine DL_nil (hK1 _ ?_)
  clear hK1; try clear K1
  refine D_seq fun K2 hK2 => ?_
  refine D_seq fun K3 hK3 => ?_
  refine D_region ?_
  refine DL_c (op_mv _ (rfl : _ = AV.ref _ _ _)) ?_
  first
    | refine DL_c (op_lenR _ inferInstance rfl rfl) ?_
    | refine DL_c (op_lenB _ inferInstance rfl rfl) ?_
  first
    | refine DL_c (op_lss _ _ rfl rfl (by assumption)) ?_
    | refine DL_c (op_lss _ _ rfl rfl rfl) ?_
  refine DL_nil (hK3 _ ?_)
  clear hK3; try clear K3
  refine D_splitC rfl (fun hc8 => ?_) (fun hc8 => ?_)
  · skip
    refine D_seq fun K4 hK4 => ?_
    refine D_region ?_
    refine DL_c (op_mv _ (rfl : _ = AV.ref _ _ _)) ?_
    refine DL_c (op_as _ (rfl : _ = AV.ref _ _ _)) ?_
    refine DL_nil (hK4 _ ?_)
    clear hK4; try clear K4
    refine D_ret ?_
    rw [dd_one (show L.length ≤ 1 by omega), hL]
    exact ret1 (.inr rfl) rfl (.tmp (rfl : _ = AV.ref _ _ _)) (Le.outI [((0, 8), (0, 9))] [] (lvRr rfl rfl) rfl rfl rfl trivial ⟨⟨rfl, ⟨_, rfl, .rowE rfl⟩, rfl⟩, trivial⟩ trivial rfl)
  · skip
    refine D_skip (hK2 _ ?_)
    clear hK2; try clear K2
    refine D_seq fun K5 hK5 => ?_
    refine D_seq fun K6 hK6 => ?_
    refine D_region ?_
    refine DL_c (op_as _ (rfl : _ = AV.v (.int _ _))) ?_
    refine DL_nil (hK6 _ ?_)
    clear hK6; try clear K6
    refine D_block ?_
    refine D_loopL (α := Nat) (fun i => 1 ≤ i ∧ i ≤ n ∧ dd (L.take i) = L.take i) 61 [(0, _)] [((0, 9), _)] (fun i => [(3, .v (.int .i64 (i : Int)))]) (fun i => []) [(0, 9)] [(0, 9)] (fun i => n - i) 1 ?_ (by
      refine Le.mkJ [] [] rfl ?_ ?_ trivial ⟨rfl, trivial⟩ ?_
      · exact ⟨(iR rfl), (lvI (by first | rfl | omega | (simp; done) | (simp; omega) | assumption)), trivial⟩
      · exact ⟨(obE rfl rfl rfl), trivial⟩
      · kernel_rfl) ?_
    · exact ⟨by omega, by omega, dd_one (by rw [List.length_take]; omega)⟩
    intro i hi
    obtain ⟨hi1, hi2, hid⟩ := hi
    refine D_seq fun K7 hK7 => ?_
    refine D_seq fun K8 hK8 => ?_
    refine D_region ?_
    refine DL_c (op_mv _ (rfl : _ = AV.v (.int _ _))) ?_
    refine DL_c (op_mv _ (rfl : _ = AV.ref _ _ _)) ?_
    first
      | refine DL_c (op_lenR _ inferInstance rfl rfl) ?_
      | refine DL_c (op_lenB _ inferInstance rfl rfl) ?_
    first
      | refine DL_c (op_lss _ _ rfl rfl (by assumption)) ?_
      | refine DL_c (op_lss _ _ rfl rfl rfl) ?_
    refine DL_nil (hK8 _ ?_)
    clear hK8; try clear K8
    refine D_splitC rfl (fun hc13 => ?_) (fun hc13 => ?_)
    · skip
      refine D_skip (hK7 _ ?_)
      clear hK7; try clear K7
      refine D_seq fun K9 hK9 => ?_
      refine D_block ?_
      refine D_seq fun K10 hK10 => ?_
      refine D_le (σ' := mkStI 61 [(0, _), (3, _)] [((0, 9), _)] [(0, 9)] [(0, 9)]) (by
        refine Le.mkJ [] [] rfl ?_ ?_ trivial ⟨rfl, trivial⟩ ?_
        · exact ⟨(iR rfl), (iV rfl), trivial⟩
        · exact ⟨(obE rfl rfl rfl), trivial⟩
        · kernel_rfl) ?_
      refine D_anyL 10 [16, 17, 18, 19, 20, 21, 22, 23, 24, 25] [] (by kernel_rfl) (by kernel_rfl) rfl (nodupO_iff rfl) (rfl : _ = [_, _, _, _, _, _, _, _, _, _]) (rfl : _ = []) ?_
      refine any_c (_, []) (fun τ => op_mv _ (rfl : _ = AV.ref _ _ _)) ?_
      refine any_n (rfl : _ = [_]) ?_
      refine any_c (_, []) (fun τ => op_mv _ (rfl : _ = AV.v (.int _ _))) ?_
      refine any_n (rfl : _ = [_, _]) ?_
      refine any_c (_, []) (fun τ => op_ixR _ _ inferInstance rfl rfl rfl i rfl (by omega) (by exact (Nat.zero_add _).trans (Nat.mul_one _))) ?_
      refine any_n (rfl : _ = [_, _, _]) ?_
      first
        | refine any_c (_, []) (fun τ => op_ldR _ inferInstance rfl rfl (by first | rfl | exact isl_get _ _ (by omega) | exact bsl_get _ _ (by omega) | assumption | exact isl_get _ _ (by omega) | exact nrows_get _ _ (by omega)) rfl) ?_
        | refine any_c (_, []) (fun τ => op_ldB _ inferInstance rfl rfl (rfl : _ = some (AV.v (.int _ _)))) ?_
      refine any_n (rfl : _ = [_, _, _, _]) ?_
      refine any_c (_, []) (fun τ => op_mv _ (rfl : _ = AV.ref _ _ _)) ?_
      refine any_n (rfl : _ = [_, _, _, _, _]) ?_
      refine any_c (_, []) (fun τ => op_mv _ (rfl : _ = AV.v (.int _ _))) ?_
      refine any_n (rfl : _ = [_, _, _, _, _, _]) ?_
      first
        | refine any_c (_, []) (fun τ => op_sub _ _ rfl rfl (i64w (by omega))) ?_
        | refine any_c (_, []) (fun τ => op_sub _ _ rfl rfl rfl) ?_
      refine any_n (rfl : _ = [_, _, _, _, _, _, _]) ?_
      refine any_c (_, []) (fun τ => op_ixR _ _ inferInstance rfl rfl rfl (i - 1) (by omega) (by omega) (by exact (Nat.zero_add _).trans (Nat.mul_one _))) ?_
      refine any_n (rfl : _ = [_, _, _, _, _, _, _, _]) ?_
      first
        | refine any_c (_, []) (fun τ => op_ldR _ inferInstance rfl rfl (by first | rfl | exact isl_get _ _ (by omega) | exact bsl_get _ _ (by omega) | assumption | exact isl_get _ _ (by omega) | exact nrows_get _ _ (by omega)) rfl) ?_
        | refine any_c (_, []) (fun τ => op_ldB _ inferInstance rfl rfl (rfl : _ = some (AV.v (.int _ _)))) ?_
      refine any_n (rfl : _ = [_, _, _, _, _, _, _, _, _]) ?_
      first
        | refine any_c (_, []) (fun τ => op_eql _ _ rfl rfl (by assumption)) ?_
        | refine any_c (_, []) (fun τ => op_eql _ _ rfl rfl rfl) ?_
      refine any_n (rfl : _ = [_, _, _, _, _, _, _, _, _, _]) ?_
      refine any_end ⟨rfl, ?_⟩
      refine DL_nil (hK10 _ ?_)
      clear hK10; try clear K10
      refine D_splitC rfl (fun hc25 => ?_) (fun hc25 => ?_)
      · skip
        have hC0 := CI.start (by omega) (by omega) hid hc25
        refine D_seq fun K11 hK11 => ?_
        refine D_region ?_
        refine DL_c (op_mv _ (rfl : _ = AV.ref _ _ _)) ?_
        refine DL_c (op_mv _ (rfl : _ = AV.v (.int _ _))) ?_
        refine DL_c (op_slR _ _ _ inferInstance rfl rfl i _ (.lit rfl rfl) .dflt (by omega) (by omega) (by exact (Nat.zero_add _).trans (Nat.mul_one _)) rfl) ?_
        refine DL_c (op_as _ (rfl : _ = AV.ref _ _ _)) ?_
        refine DL_nil (hK11 _ ?_)
        clear hK11; try clear K11
        refine D_seq fun K12 hK12 => ?_
        refine D_seq fun K13 hK13 => ?_
        refine D_region ?_
        refine DL_c (op_as _ (rfl : _ = AV.v (.int _ _))) ?_
        refine DL_nil (hK13 _ ?_)
        clear hK13; try clear K13
        refine D_block ?_
        refine D_loopL (α := Nat × Nat × List Int) (fun z => CI L i z.1 z.2.1 z.2.2) 61 [(0, _), (4, _)] [] (fun z => [(3, .v (.int .i64 (z.1 : Int))), (5, .v (.int .i64 (z.2.1 : Int)))]) (fun z => [((0, 9), .row 3 1 (isl z.2.2))]) [(0, 9)] [(0, 9)] (fun z => n - z.2.1) (i, 1, L) ?_ (by
          refine Le.mkJ [] [] rfl ?_ ?_ trivial ⟨rfl, trivial⟩ ?_
          · exact ⟨(iR rfl), (iR rfl), (lvI (by first | rfl | omega | (simp; done) | (simp; omega) | assumption)), (lvI (by first | rfl | omega | (simp; done) | (simp; omega) | assumption)), trivial⟩
          · exact ⟨(obR rfl rfl rfl (by first | rfl | omega | (simp; done) | (simp; omega) | assumption)), trivial⟩
          · kernel_rfl) ?_
        · exact hC0
        intro z hz
        have hzl := hz.len
        have hzk := hz.kj
        have hz0 := hz.k0
        have hzj := hz.j1
        have hzn := hz.jn
        have hr1 := hz.rest (i + z.2.1) (by omega)
        have hr2 := hz.rest (i + z.2.1 - 1) (by omega)
        refine D_seq fun K14 hK14 => ?_
        refine D_seq fun K15 hK15 => ?_
        refine D_region ?_
        refine DL_c (op_mv _ (rfl : _ = AV.v (.int _ _))) ?_
        refine DL_c (op_mv _ (rfl : _ = AV.ref _ _ _)) ?_
        first
          | refine DL_c (op_lenR _ inferInstance rfl rfl) ?_
          | refine DL_c (op_lenB _ inferInstance rfl rfl) ?_
        first
          | refine DL_c (op_lss _ _ rfl rfl (by assumption)) ?_
          | refine DL_c (op_lss _ _ rfl rfl rfl) ?_
        refine DL_nil (hK15 _ ?_)
        clear hK15; try clear K15
        refine D_splitC rfl (fun hc32 => ?_) (fun hc32 => ?_)
        · skip
          refine D_skip (hK14 _ ?_)
          clear hK14; try clear K14
          refine D_seq fun K16 hK16 => ?_
          refine D_block ?_
          refine D_seq fun K17 hK17 => ?_
          refine D_le (σ' := mkStI 61 [(0, _), (3, _), (4, _), (5, _)] [((0, 9), _)] [(0, 9)] [(0, 9)]) (by
            refine Le.mkJ [] [] rfl ?_ ?_ trivial ⟨rfl, trivial⟩ ?_
            · exact ⟨(iR rfl), (iV rfl), (iR rfl), (iV rfl), trivial⟩
            · exact ⟨(obE rfl rfl rfl), trivial⟩
            · kernel_rfl) ?_
          refine D_anyL 10 [35, 36, 37, 38, 39, 40, 41, 42, 43, 44] [] (by kernel_rfl) (by kernel_rfl) rfl (nodupO_iff rfl) (rfl : _ = [_, _, _, _, _, _, _, _, _, _]) (rfl : _ = []) ?_
          refine any_c (_, []) (fun τ => op_mv _ (rfl : _ = AV.ref _ _ _)) ?_
          refine any_n (rfl : _ = [_]) ?_
          refine any_c (_, []) (fun τ => op_mv _ (rfl : _ = AV.v (.int _ _))) ?_
          refine any_n (rfl : _ = [_, _]) ?_
          refine any_c (_, []) (fun τ => op_ixR _ _ inferInstance rfl rfl rfl z.2.1 rfl (by omega) (by exact congrArg (i + ·) (Nat.mul_one _))) ?_
          refine any_n (rfl : _ = [_, _, _]) ?_
          refine any_c (_, []) (fun τ => op_ldR _ inferInstance rfl rfl (by exact (isl_get _ _ (by omega)).trans (by rw [hr1])) rfl) ?_
          refine any_n (rfl : _ = [_, _, _, _]) ?_
          refine any_c (_, []) (fun τ => op_mv _ (rfl : _ = AV.ref _ _ _)) ?_
          refine any_n (rfl : _ = [_, _, _, _, _]) ?_
          refine any_c (_, []) (fun τ => op_mv _ (rfl : _ = AV.v (.int _ _))) ?_
          refine any_n (rfl : _ = [_, _, _, _, _, _]) ?_
          first
            | refine any_c (_, []) (fun τ => op_sub _ _ rfl rfl (i64w (by omega))) ?_
            | refine any_c (_, []) (fun τ => op_sub _ _ rfl rfl rfl) ?_
          refine any_n (rfl : _ = [_, _, _, _, _, _, _]) ?_
          refine any_c (_, []) (fun τ => op_ixR _ _ inferInstance rfl rfl rfl (z.2.1 - 1) (by omega) (by omega) (by exact (congrArg (i + ·) (Nat.mul_one _)).trans (by omega : i + (z.2.1 - 1) = i + z.2.1 - 1))) ?_
          refine any_n (rfl : _ = [_, _, _, _, _, _, _, _]) ?_
          refine any_c (_, []) (fun τ => op_ldR _ inferInstance rfl rfl (by exact (isl_get _ _ (by omega)).trans (by rw [hr2])) rfl) ?_
          refine any_n (rfl : _ = [_, _, _, _, _, _, _, _, _]) ?_
          first
            | refine any_c (_, []) (fun τ => op_neq _ _ rfl rfl (by assumption)) ?_
            | refine any_c (_, []) (fun τ => op_neq _ _ rfl rfl rfl) ?_
          refine any_n (rfl : _ = [_, _, _, _, _, _, _, _, _, _]) ?_
          refine any_end ⟨rfl, ?_⟩
          refine DL_nil (hK17 _ ?_)
          clear hK17; try clear K17
          refine D_splitC rfl (fun hc44 => ?_) (fun hc44 => ?_)
          · skip
            refine D_seq fun K18 hK18 => ?_
            refine D_region ?_
            refine DL_c (op_mv _ (rfl : _ = AV.ref _ _ _)) ?_
            refine DL_c (op_mv _ (rfl : _ = AV.v (.int _ _))) ?_
            refine DL_c (op_mv _ (rfl : _ = AV.ref _ _ _)) ?_
            refine DL_c (op_mv _ (rfl : _ = AV.v (.int _ _))) ?_
            refine DL_c (op_ixR _ _ inferInstance rfl rfl rfl z.2.1 rfl (by omega) (by exact congrArg (i + ·) (Nat.mul_one _))) ?_
            refine DL_c (op_ldR _ inferInstance rfl rfl (by exact (isl_get _ _ (by omega)).trans (by rw [hr1])) rfl) ?_
            refine DL_c (op_ixR _ _ inferInstance rfl rfl rfl z.1 rfl (by omega) (by exact (Nat.zero_add _).trans (Nat.mul_one _))) ?_
            refine DL_c (op_stR _ _ inferInstance rfl rfl rfl rfl rfl (by rw [isl_len, hzl]; simp only [List.length_cons, List.length_nil]; omega) (isl_put _ _ _ (by omega))) ?_
            refine DL_nil (hK18 _ ?_)
            clear hK18; try clear K18
            refine D_le (σ' := mkStI 61 [(0, _), (3, _), (4, _), (5, _)] [((0, 9), _)] [(0, 9)] [(0, 9)]) (by
              refine Le.mkJ [] [] rfl ?_ ?_ trivial ⟨rfl, trivial⟩ ?_
              · exact ⟨(iR rfl), (iV rfl), (iR rfl), (iV rfl), trivial⟩
              · exact ⟨(obE rfl rfl rfl), trivial⟩
              · kernel_rfl) ?_
            refine D_region ?_
            refine DL_c (op_mv _ (rfl : _ = AV.v (.int _ _))) ?_
            first
              | refine DL_c (op_add _ _ rfl rfl (i64w (by omega))) ?_
              | refine DL_c (op_add _ _ rfl rfl rfl) ?_
            refine DL_c (op_as _ (rfl : _ = AV.v (.int _ _))) ?_
            refine DL_nil (hK16 _ ?_)
            clear hK16; try clear K16
            refine D_region ?_
            refine DL_c (op_mv _ (rfl : _ = AV.v (.int _ _))) ?_
            first
              | refine DL_c (op_add _ _ rfl rfl (i64w (by omega))) ?_
              | refine DL_c (op_add _ _ rfl rfl rfl) ?_
            refine DL_c (op_as _ (rfl : _ = AV.v (.int _ _))) ?_
            refine DL_nil ?_
            refine ⟨(z.1 + 1, z.2.1 + 1, z.2.2.set z.1 (L.getD (i + z.2.1) 0)), ?_, ?_, ?_⟩
            · exact hz.take_ (by omega) (by omega) hc44
            · skip
              refine Le.mkJ [] [] rfl ?_ ?_ trivial ⟨rfl, trivial⟩ ?_
              · exact ⟨(iR rfl), (iR rfl), (lvI (by first | rfl | omega | (simp; done) | (simp; omega) | assumption)), (lvI (by first | rfl | omega | (simp; done) | (simp; omega) | assumption)), trivial⟩
              · exact ⟨(obR rfl rfl rfl (by first | rfl | omega | (simp; done) | (simp; omega) | assumption)), trivial⟩
              · kernel_rfl
            · simp only; omega
          · skip
            refine D_skip (hK16 _ ?_)
            clear hK16; try clear K16
            refine D_region ?_
            refine DL_c (op_mv _ (rfl : _ = AV.v (.int _ _))) ?_
            first
              | refine DL_c (op_add _ _ rfl rfl (i64w (by omega))) ?_
              | refine DL_c (op_add _ _ rfl rfl rfl) ?_
            refine DL_c (op_as _ (rfl : _ = AV.v (.int _ _))) ?_
            refine DL_nil ?_
            refine ⟨(z.1, z.2.1 + 1, z.2.2), ?_, ?_, ?_⟩
            · exact hz.skip (by omega) (by omega) (by omega)
            · skip
              refine Le.mkJ [] [] rfl ?_ ?_ trivial ⟨rfl, trivial⟩ ?_
              · exact ⟨(iR rfl), (iR rfl), (lvI (by first | rfl | omega | (simp; done) | (simp; omega) | assumption)), (lvI (by first | rfl | omega | (simp; done) | (simp; omega) | assumption)), trivial⟩
              · exact ⟨(obR rfl rfl rfl (by first | rfl | omega | (simp; done) | (simp; omega) | assumption)), trivial⟩
              · kernel_rfl
            · simp only; omega
        · skip
          have hjn : i + z.2.1 = L.length := by omega
          have hdn := hz.dn
          rw [hjn, List.take_length] at hdn
          have hkl : (dd L).length = z.1 := by rw [← hdn, List.length_take]; omega
          obtain ⟨zs, hzs⟩ := clr_row (M := z.2.2) (k := z.1) (n := n) (by omega) (by omega)
          refine D_exit ?_
          refine id (hK12 _ ?_)
          clear hK12; try clear K12
          refine D_seq fun K19 hK19 => ?_
          refine D_region ?_
          refine DL_c (op_mv _ (rfl : _ = AV.ref _ _ _)) ?_
          refine DL_c (op_mv _ (rfl : _ = AV.v (.int _ _))) ?_
          refine DL_c (op_slR _ _ _ inferInstance rfl rfl z.1 _ (.lit rfl rfl) .dflt (by omega) (by omega) (by exact (Nat.zero_add _).trans (Nat.mul_one _)) rfl) ?_
          refine DL_c (op_clr _ inferInstance rfl rfl (by omega) (by first | omega | (simp only [isl_len, bsl_len, psl_len, mrows_len, nsl_len, ws_len, List.length_map, nxL_len, nxM_len, isl_len]; omega) | (simp; omega)) rfl) ?_
          refine DL_nil (hK19 _ ?_)
          clear hK19; try clear K19
          refine D_seq fun K20 hK20 => ?_
          refine D_region ?_
          refine DL_c (op_mv _ (rfl : _ = AV.ref _ _ _)) ?_
          refine DL_c (op_mv _ (rfl : _ = AV.v (.int _ _))) ?_
          refine DL_c (op_slR _ _ _ inferInstance rfl rfl 0 _ .dflt (.lit rfl rfl) (by omega) (by omega) (by first | exact (Nat.zero_add _).trans (Nat.mul_one _) | exact Nat.zero_add _ | rfl | omega) (Nat.sub_zero _)) ?_
          refine DL_c (op_as _ (rfl : _ = AV.ref _ _ _)) ?_
          refine DL_nil (hK20 _ ?_)
          clear hK20; try clear K20
          refine D_ret ?_
          rw [hkl]
          exact ret1 (.inr rfl) rfl (.tmp (rfl : _ = AV.ref _ _ _)) (Le.outI [((0, 8), (0, 9))] [] (lvRr rfl (by omega)) rfl rfl rfl trivial ⟨⟨rfl, ⟨_, rfl, .row (hzs.trans (by rw [hdn]))⟩, rfl⟩, trivial⟩ trivial rfl)
      · skip
        have hdn : dd (L.take (i + 1)) = L.take (i + 1) := by rw [dd_succ (by omega) (by omega), if_neg hc25, hid, take1 0 (by omega)]
        refine D_skip (hK9 _ ?_)
        clear hK9; try clear K9
        refine D_region ?_
        refine DL_c (op_mv _ (rfl : _ = AV.v (.int _ _))) ?_
        first
          | refine DL_c (op_add _ _ rfl rfl (i64w (by omega))) ?_
          | refine DL_c (op_add _ _ rfl rfl rfl) ?_
        refine DL_c (op_as _ (rfl : _ = AV.v (.int _ _))) ?_
        refine DL_nil ?_
        refine ⟨i + 1, ?_, ?_, ?_⟩
        · exact ⟨by omega, by omega, hdn⟩
        · skip
          refine Le.mkJ [] [] rfl ?_ ?_ trivial ⟨rfl, trivial⟩ ?_
          · exact ⟨(iR rfl), (lvI (by first | rfl | omega | (simp; done) | (simp; omega) | assumption)), trivial⟩
          · exact ⟨(obE rfl rfl rfl), trivial⟩
          · kernel_rfl
        · omega
    · skip
      have hdl : dd L = L := by rw [List.take_of_length_le (by omega)] at hid; exact hid
      refine D_exit ?_
      refine id (hK5 _ ?_)
      clear hK5; try clear K5
      refine D_seq fun K21 hK21 => ?_
      refine D_region ?_
      refine DL_c (op_mv _ (rfl : _ = AV.ref _ _ _)) ?_
      refine DL_c (op_as _ (rfl : _ = AV.ref _ _ _)) ?_
      refine DL_nil (hK21 _ ?_)
      clear hK21; try clear K21
      refine D_ret ?_
      rw [hdl, hL]
      exact ret1 (.inr rfl) rfl (.tmp (rfl : _ = AV.ref _ _ _)) (Le.outI [((0, 8), (0, 9))] [] (lvRr rfl rfl) rfl rfl rfl trivial ⟨⟨rfl, ⟨_, rfl, .rowE rfl⟩, rfl⟩, trivial⟩ trivial rfl)
end Go.Proofs.Ytkbkmngbenohkaa
