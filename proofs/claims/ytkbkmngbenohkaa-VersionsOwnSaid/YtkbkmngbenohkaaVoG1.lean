/- slices.Sort of at most twelve numbers by the machine. -/
import Derived.Test.YtkbkmngbenohkaaVoH1
import Derived.Test.YtkbkmngbenohkaaVoM8
set_option linter.unusedSimpArgs false
set_option linter.unusedVariables false
namespace Go.Proofs.Ytkbkmngbenohkaa
open Go.RowKit

theorem isnan_spec (x : Int) : Spec Try.prog 157 (inSt [.v (.int .i64 x)] []) (outSt (.v (.bool false)) []) := by
  refine Spec.ofN Try.func157 rfl Try.ntmps157 rfl ?_
  refine D_seq fun K1 hK1 => ?_
  refine D_region ?_
  refine DL_c (op_as _ (rfl : _ = AV.v (.bool _))) ?_
  refine DL_nil (hK1 _ ?_)
  clear hK1; try clear K1
  refine D_seq fun K2 hK2 => ?_
  refine D_region ?_
  refine DL_c (op_mv _ (rfl : _ = AV.v (.int _ _))) ?_
  refine DL_c (op_mv _ (rfl : _ = AV.v (.int _ _))) ?_
  refine DL_c (op_neq (r := false) _ _ rfl rfl (by simp)) ?_
  refine DL_c (op_as _ (rfl : _ = AV.v (.bool _))) ?_
  refine DL_nil (hK2 _ ?_)
  clear hK2; try clear K2
  refine D_ret ?_
  refine ret1 (.inr rfl) rfl (.tmp (rfl : _ = AV.v (.bool _))) (Le.out [] [] (lvB ?_) rfl rfl rfl trivial trivial)
  rfl
theorem cmpless_spec (x y : Int) : Spec Try.prog 146 (inSt [.v (.int .i64 x), .v (.int .i64 y)] []) (outSt (.v (.bool (decide (x < y)))) []) := by
  refine Spec.ofN Try.func146 rfl Try.ntmps146 rfl ?_
  refine D_seq fun K1 hK1 => ?_
  refine D_region ?_
  refine DL_c (op_as _ (rfl : _ = AV.v (.bool _))) ?_
  refine DL_nil (hK1 _ ?_)
  clear hK1; try clear K1
  refine D_seq fun K2 hK2 => ?_
  refine D_region ?_
  refine DL_c (op_mv _ (rfl : _ = AV.v (.int _ _))) ?_
  refine DL_c (op_callH inferInstance (by repeat' (first | exact argsLv_nil | refine argsLv_cons ?_ ?_ | exact Lv.v | exact lvI (by omega) | exact Lv.sl | exact Lv.fp | exact Lv.nil | refine Lv.agg rfl ?_ | refine Lv.fn rfl ?_ rfl ?_ | exact lv_nil | refine lv_cons ?_ ?_ | exact Lv.z0)) (isnan_spec x) rfl rfl) ?_
  refine DL_c (op_mv _ (rfl : _ = AV.v (.bool _))) ?_
  refine DL_cn rfl rfl (by decide) ?_
  refine DL_cn rfl rfl (by decide) ?_
  refine DL_cn rfl rfl (by decide) ?_
  refine DL_c (op_pick _ _ _ rfl (rfl : _ = AV.v (.bool _))) ?_
  refine DL_c (op_mv _ (rfl : _ = AV.v (.bool _))) ?_
  refine DL_cy rfl rfl (op_mv _ (rfl : _ = AV.v (.int _ _))) ?_
  refine DL_cy rfl rfl (op_mv _ (rfl : _ = AV.v (.int _ _))) ?_
  first
    | refine DL_cy rfl rfl (op_lss _ _ rfl rfl (by assumption)) ?_
    | refine DL_cy rfl rfl (op_lss _ _ rfl rfl rfl) ?_
  refine DL_c (op_pick _ _ _ rfl (rfl : _ = AV.v (.bool _))) ?_
  refine DL_c (op_as _ (rfl : _ = AV.v (.bool _))) ?_
  refine DL_nil (hK2 _ ?_)
  clear hK2; try clear K2
  refine D_ret ?_
  refine ret1 (.inr rfl) rfl (.tmp (rfl : _ = AV.v (.bool _))) (Le.out [] [] (lvB ?_) rfl rfl rfl trivial trivial)
  rfl
theorem insort_spec (n : Nat) (L : List Int) (hL : L.length = n) (h1 : n ≤ 4611686018427387904) :
    Spec Try.prog 140 (inStI [.ref (0, 9) 0 n, .v (.int .i64 0), .v (.int .i64 (n : Int))] [((0, 9), .row 3 1 (isl L))]) (outStI (.tup []) [((0, 9), .row 3 1 (isl (srt L)))] [(0, 9)] [(0, 9)]) := by
  refine Spec.ofNI Try.func140 rfl Try.ntmps140 rfl ?_
  refine D_seq fun K1 hK1 => ?_
  refine D_region ?_
  refine DL_c (op_mv _ (rfl : _ = AV.v (.int _ _))) ?_
  first
    | refine DL_c (op_add _ _ rfl rfl (i64w (by omega))) ?_
    | refine DL_c (op_add _ _ rfl rfl rfl) ?_
  refine DL_c (op_as _ (rfl : _ = AV.v (.int _ _))) ?_
  refine DL_nil (hK1 _ ?_)
  clear hK1; try clear K1
  refine D_block ?_
  refine D_loopL (α := Nat × List Int) (fun z => 1 ≤ z.1 ∧ z.2.Perm L ∧ Upto z.2 z.1) 49 [(0, _), (1, _), (2, _)] [] (fun z => [(6, .v (.int .i64 (z.1 : Int)))]) (fun z => [((0, 9), .row 3 1 (isl z.2))]) [(0, 9)] [(0, 9)] (fun z => n - z.1) (1, L) ?_ (by
    refine Le.mkJ [] [] rfl ?_ ?_ trivial ⟨rfl, trivial⟩ ?_
    · exact ⟨(iR rfl), (iV rfl), (iV rfl), (lvI (by first | rfl | omega | (simp; done) | (simp; omega) | assumption)), trivial⟩
    · exact ⟨(obR rfl rfl rfl (by first | rfl | omega | (simp; done) | (simp; omega) | assumption)), trivial⟩
    · kernel_rfl) ?_
  · exact ⟨Nat.le_refl _, List.Perm.refl _, fun p q h1 h2 => by omega⟩
  intro z hz
  obtain ⟨hz1, hzp, hzu⟩ := hz
  have hzl := hzp.length_eq
  refine D_seq fun K2 hK2 => ?_
  refine D_seq fun K3 hK3 => ?_
  refine D_region ?_
  refine DL_c (op_mv _ (rfl : _ = AV.v (.int _ _))) ?_
  refine DL_c (op_mv _ (rfl : _ = AV.v (.int _ _))) ?_
  first
    | refine DL_c (op_lss _ _ rfl rfl (by assumption)) ?_
    | refine DL_c (op_lss _ _ rfl rfl rfl) ?_
  refine DL_nil (hK3 _ ?_)
  clear hK3; try clear K3
  refine D_splitC rfl (fun hc12 => ?_) (fun hc12 => ?_)
  · skip
    refine D_skip (hK2 _ ?_)
    clear hK2; try clear K2
    refine D_seq fun K4 hK4 => ?_
    refine D_block ?_
    refine D_seq fun K5 hK5 => ?_
    refine D_region ?_
    refine DL_c (op_mv _ (rfl : _ = AV.v (.int _ _))) ?_
    refine DL_c (op_as _ (rfl : _ = AV.v (.int _ _))) ?_
    refine DL_nil (hK5 _ ?_)
    clear hK5; try clear K5
    refine D_block ?_
    refine D_loopL (α := Nat × List Int) (fun y => y.1 ≤ z.1 ∧ y.2.Perm L ∧ Sink y.2 z.1 y.1) 49 [(0, _), (1, _), (2, _), (6, _)] [] (fun y => [(7, .v (.int .i64 (y.1 : Int)))]) (fun y => [((0, 9), .row 3 1 (isl y.2))]) [(0, 9)] [(0, 9)] (fun y => y.1) (z.1, z.2) ?_ (by
      refine Le.mkJ [] [] rfl ?_ ?_ trivial ⟨rfl, trivial⟩ ?_
      · exact ⟨(iR rfl), (iV rfl), (iV rfl), (iV rfl), (lvI (by first | rfl | omega | (simp; done) | (simp; omega) | assumption)), trivial⟩
      · exact ⟨(obR rfl rfl rfl (by first | rfl | omega | (simp; done) | (simp; omega) | assumption)), trivial⟩
      · kernel_rfl) ?_
    · exact ⟨Nat.le_refl _, hzp, .start hzu⟩
    intro y hy
    obtain ⟨hy1, hyp, hys⟩ := hy
    have hyl := hyp.length_eq
    refine D_seq fun K6 hK6 => ?_
    refine D_seq fun K7 hK7 => ?_
    refine D_anyL 15 [16, 17, 18, 19, 20, 21, 22, 23, 24, 25, 26, 27, 28, 29, 30] [] (by kernel_rfl) (by kernel_rfl) rfl (nodupO_iff rfl) (rfl : _ = [_, _, _, _, _, _, _, _, _, _, _, _, _, _, _]) (rfl : _ = []) ?_
    refine any_c (_, []) (fun τ => op_mv _ (rfl : _ = AV.v (.int _ _))) ?_
    refine any_n (rfl : _ = [_]) ?_
    refine any_c (_, []) (fun τ => op_mv _ (rfl : _ = AV.v (.int _ _))) ?_
    refine any_n (rfl : _ = [_, _]) ?_
    first
      | refine any_c (_, []) (fun τ => op_gtr _ _ rfl rfl (by assumption)) ?_
      | refine any_c (_, []) (fun τ => op_gtr _ _ rfl rfl rfl) ?_
    refine any_n (rfl : _ = [_, _, _]) ?_
    refine any_c (_, []) (fun τ => op_mv _ (rfl : _ = AV.v (.bool _))) ?_
    refine any_caseC (fun hg19 => ?_) (fun hg19 => ?_)
    · skip
      refine any_n (rfl : _ = [_, _, _, _]) ?_
      refine any_cy (_, []) rfl (fun τ => rfl) (fun τ => op_mv _ (rfl : _ = AV.ref _ _ _)) ?_
      refine any_n (rfl : _ = [_, _, _, _, _]) ?_
      refine any_cy (_, []) rfl (fun τ => rfl) (fun τ => op_mv _ (rfl : _ = AV.v (.int _ _))) ?_
      refine any_n (rfl : _ = [_, _, _, _, _, _]) ?_
      refine any_cy (_, []) rfl (fun τ => rfl) (fun τ => op_ixR _ _ inferInstance rfl rfl rfl y.1 rfl (by omega) (by exact (Nat.zero_add _).trans (Nat.mul_one _))) ?_
      refine any_n (rfl : _ = [_, _, _, _, _, _, _]) ?_
      first
        | refine any_cy (_, []) rfl (fun τ => rfl) (fun τ => op_ldR _ inferInstance rfl rfl (by first | rfl | exact isl_get _ _ (by omega) | exact bsl_get _ _ (by omega) | assumption | exact isl_get _ _ (by omega)) rfl) ?_
        | refine any_cy (_, []) rfl (fun τ => rfl) (fun τ => op_ldB _ inferInstance rfl rfl (rfl : _ = some (AV.v (.int _ _)))) ?_
      refine any_n (rfl : _ = [_, _, _, _, _, _, _, _]) ?_
      refine any_cy (_, []) rfl (fun τ => rfl) (fun τ => op_mv _ (rfl : _ = AV.ref _ _ _)) ?_
      refine any_n (rfl : _ = [_, _, _, _, _, _, _, _, _]) ?_
      refine any_cy (_, []) rfl (fun τ => rfl) (fun τ => op_mv _ (rfl : _ = AV.v (.int _ _))) ?_
      refine any_n (rfl : _ = [_, _, _, _, _, _, _, _, _, _]) ?_
      first
        | refine any_cy (_, []) rfl (fun τ => rfl) (fun τ => op_sub _ _ rfl rfl (i64w (by omega))) ?_
        | refine any_cy (_, []) rfl (fun τ => rfl) (fun τ => op_sub _ _ rfl rfl rfl) ?_
      refine any_n (rfl : _ = [_, _, _, _, _, _, _, _, _, _, _]) ?_
      refine any_cy (_, []) rfl (fun τ => rfl) (fun τ => op_ixR _ _ inferInstance rfl rfl rfl (y.1 - 1) (by omega) (by omega) (by exact (Nat.zero_add _).trans (Nat.mul_one _))) ?_
      refine any_n (rfl : _ = [_, _, _, _, _, _, _, _, _, _, _, _]) ?_
      first
        | refine any_cy (_, []) rfl (fun τ => rfl) (fun τ => op_ldR _ inferInstance rfl rfl (by first | rfl | exact isl_get _ _ (by omega) | exact bsl_get _ _ (by omega) | assumption | exact isl_get _ _ (by omega)) rfl) ?_
        | refine any_cy (_, []) rfl (fun τ => rfl) (fun τ => op_ldB _ inferInstance rfl rfl (rfl : _ = some (AV.v (.int _ _)))) ?_
      refine any_n (rfl : _ = [_, _, _, _, _, _, _, _, _, _, _, _, _]) ?_
      refine any_cy (_, []) rfl (fun τ => rfl) (fun τ => (op_callH inferInstance (by repeat' (first | exact argsLv_nil | refine argsLv_cons ?_ ?_ | exact Lv.v | exact lvI (by omega) | exact Lv.sl | exact Lv.fp | exact Lv.nil | refine Lv.agg rfl ?_ | refine Lv.fn rfl ?_ rfl ?_ | exact lv_nil | refine lv_cons ?_ ?_ | exact Lv.z0)) (cmpless_spec (y.2.getD y.1 0) (y.2.getD (y.1 - 1) 0)) rfl rfl)) ?_
      refine any_n (rfl : _ = [_, _, _, _, _, _, _, _, _, _, _, _, _, _]) ?_
      refine any_c (_, []) (fun τ => op_pick _ _ _ rfl (rfl : _ = AV.v (.bool _))) ?_
      refine any_n (rfl : _ = [_, _, _, _, _, _, _, _, _, _, _, _, _, _, _]) ?_
      refine any_end ⟨rfl, ?_⟩
      refine DL_nil (hK7 _ ?_)
      clear hK7; try clear K7
      refine D_splitC rfl (fun hc30 => ?_) (fun hc30 => ?_)
      · skip
        have hsk := hys.swap (by omega) hy1 (by omega) hc30
        have hsp := (sw_perm (L := y.2) (i := y.1) (j := y.1 - 1) (by omega) (by omega)).trans hyp
        refine D_skip (hK6 _ ?_)
        clear hK6; try clear K6
        refine D_seq fun K8 hK8 => ?_
        refine D_block ?_
        refine D_le (σ' := mkStI 49 [(0, _), (1, _), (2, _), (6, _), (7, _)] [((0, 9), _)] [(0, 9)] [(0, 9)]) (by
          refine Le.mkJ [] [] rfl ?_ ?_ trivial ⟨rfl, trivial⟩ ?_
          · exact ⟨(iR rfl), (iV rfl), (iV rfl), (iV rfl), (iV rfl), trivial⟩
          · exact ⟨(obE rfl rfl rfl), trivial⟩
          · kernel_rfl) ?_
        refine D_anyA 17 [33, 34, 35, 36, 37, 38, 39, 40, 41, 42, 43, 44, 45, 46, 47, 48] [(0, 9)] [[(0, 9)], [(0, 9)], [], [], [], [(0, 9)], [(0, 9)], [(0, 9)], [(0, 9)], [(0, 9)], [], [], [(0, 9)], [(0, 9)], [(0, 9)], [], []] (by kernel_rfl) (by kernel_rfl) rfl (nodupO_iff rfl) (rfl : _ = [_, _, _, _, _, _, _, _, _, _, _, _, _, _, _, _, _]) (rfl : _ = [_]) ?_
        refine any_c (_, []) (fun τ => op_mv _ (rfl : _ = AV.ref _ _ _)) ?_
        refine any_n (rfl : _ = [_]) ?_
        refine any_c (_, []) (fun τ => op_mv _ (rfl : _ = AV.v (.int _ _))) ?_
        refine any_n (rfl : _ = [_, _]) ?_
        refine any_c (_, []) (fun τ => op_mv _ (rfl : _ = AV.ref _ _ _)) ?_
        refine any_n (rfl : _ = [_, _, _]) ?_
        refine any_c (_, []) (fun τ => op_mv _ (rfl : _ = AV.v (.int _ _))) ?_
        refine any_n (rfl : _ = [_, _, _, _]) ?_
        first
          | refine any_c (_, []) (fun τ => op_sub _ _ rfl rfl (i64w (by omega))) ?_
          | refine any_c (_, []) (fun τ => op_sub _ _ rfl rfl rfl) ?_
        refine any_n (rfl : _ = [_, _, _, _, _]) ?_
        refine any_c (_, []) (fun τ => op_mv _ (rfl : _ = AV.ref _ _ _)) ?_
        refine any_n (rfl : _ = [_, _, _, _, _, _]) ?_
        refine any_c (_, []) (fun τ => op_mv _ (rfl : _ = AV.v (.int _ _))) ?_
        refine any_n (rfl : _ = [_, _, _, _, _, _, _]) ?_
        first
          | refine any_c (_, []) (fun τ => op_sub _ _ rfl rfl (i64w (by omega))) ?_
          | refine any_c (_, []) (fun τ => op_sub _ _ rfl rfl rfl) ?_
        refine any_n (rfl : _ = [_, _, _, _, _, _, _, _]) ?_
        refine any_c (_, []) (fun τ => op_ixR _ _ inferInstance rfl rfl rfl (y.1 - 1) (by omega) (by omega) (by exact (Nat.zero_add _).trans (Nat.mul_one _))) ?_
        refine any_n (rfl : _ = [_, _, _, _, _, _, _, _, _]) ?_
        first
          | refine any_c (_, []) (fun τ => op_ldR _ inferInstance rfl rfl (by first | rfl | exact isl_get _ _ (by omega) | exact bsl_get _ _ (by omega) | assumption | exact isl_get _ _ (by omega)) rfl) ?_
          | refine any_c (_, []) (fun τ => op_ldB _ inferInstance rfl rfl (rfl : _ = some (AV.v (.int _ _)))) ?_
        refine any_n (rfl : _ = [_, _, _, _, _, _, _, _, _, _]) ?_
        refine any_c (_, []) (fun τ => op_mv _ (rfl : _ = AV.ref _ _ _)) ?_
        refine any_n (rfl : _ = [_, _, _, _, _, _, _, _, _, _, _]) ?_
        refine any_c (_, []) (fun τ => op_mv _ (rfl : _ = AV.v (.int _ _))) ?_
        refine any_n (rfl : _ = [_, _, _, _, _, _, _, _, _, _, _, _]) ?_
        refine any_c (_, []) (fun τ => op_ixR _ _ inferInstance rfl rfl rfl y.1 rfl (by omega) (by exact (Nat.zero_add _).trans (Nat.mul_one _))) ?_
        refine any_n (rfl : _ = [_, _, _, _, _, _, _, _, _, _, _, _, _]) ?_
        first
          | refine any_c (_, []) (fun τ => op_ldR _ inferInstance rfl rfl (by first | rfl | exact isl_get _ _ (by omega) | exact bsl_get _ _ (by omega) | assumption | exact isl_get _ _ (by omega)) rfl) ?_
          | refine any_c (_, []) (fun τ => op_ldB _ inferInstance rfl rfl (rfl : _ = some (AV.v (.int _ _)))) ?_
        refine any_n (rfl : _ = [_, _, _, _, _, _, _, _, _, _, _, _, _, _]) ?_
        refine any_c (_, []) (fun τ => op_ixR _ _ inferInstance rfl rfl rfl y.1 rfl (by omega) (by exact (Nat.zero_add _).trans (Nat.mul_one _))) ?_
        refine any_n (rfl : _ = [_, _, _, _, _, _, _, _, _, _, _, _, _, _, _]) ?_
        refine any_c (_, [((0, 9), _)]) (fun τ => op_stR _ _ inferInstance rfl (mix_own rfl (by exact inO_head) rfl) rfl rfl rfl (by simp; omega) (isl_put _ _ _ (by omega))) ?_
        refine any_n (rfl : _ = [_, _, _, _, _, _, _, _, _, _, _, _, _, _, _, _]) ?_
        refine any_c (_, []) (fun τ => op_ixR _ _ inferInstance rfl rfl rfl (y.1 - 1) (by omega) (by omega) (by exact (Nat.zero_add _).trans (Nat.mul_one _))) ?_
        refine any_n (rfl : _ = [_, _, _, _, _, _, _, _, _, _, _, _, _, _, _, _, _]) ?_
        refine any_end ⟨⟨rfl, by kernel_rfl⟩, ?_⟩
        refine DL_c (op_stR _ _ inferInstance rfl rfl rfl rfl rfl (by simp; omega) (isl_put _ _ _ (by simp; omega))) ?_
        refine DL_nil (hK8 _ ?_)
        clear hK8; try clear K8
        refine D_le (σ' := mkStI 49 [(0, _), (1, _), (2, _), (6, _), (7, _)] [((0, 9), _)] [(0, 9)] [(0, 9)]) (by
          refine Le.mkJ [] [] rfl ?_ ?_ trivial ⟨rfl, trivial⟩ ?_
          · exact ⟨(iR rfl), (iV rfl), (iV rfl), (iV rfl), (iV rfl), trivial⟩
          · exact ⟨(obE rfl rfl rfl), trivial⟩
          · kernel_rfl) ?_
        refine D_region ?_
        refine DL_c (op_mv _ (rfl : _ = AV.v (.int _ _))) ?_
        first
          | refine DL_c (op_sub _ _ rfl rfl (i64w (by omega))) ?_
          | refine DL_c (op_sub _ _ rfl rfl rfl) ?_
        refine DL_c (op_as _ (rfl : _ = AV.v (.int _ _))) ?_
        refine DL_nil ?_
        refine ⟨(y.1 - 1, sw y.2 y.1 (y.1 - 1)), ?_, ?_, ?_⟩
        · exact ⟨by simp only; omega, hsp, hsk⟩
        · skip
          refine Le.mkJ [] [] rfl ?_ ?_ trivial ⟨rfl, trivial⟩ ?_
          · exact ⟨(iR rfl), (iV rfl), (iV rfl), (iV rfl), (lvI (by first | rfl | omega | (simp; done) | (simp; omega) | assumption)), trivial⟩
          · exact ⟨(obR rfl rfl rfl (by first | rfl | omega | (simp; done) | (simp; omega) | assumption)), trivial⟩
          · kernel_rfl
        · simp only; omega
      · skip
        have hup : Upto y.2 (z.1 + 1) := hys.stop hy1 (.inr (by omega))
        refine D_exit ?_
        refine id (hK4 _ ?_)
        clear hK4; try clear K4
        refine D_le (σ' := mkStI 49 [(0, _), (1, _), (2, _), (6, _)] [((0, 9), _)] [(0, 9)] [(0, 9)]) (by
          refine Le.mkJ [] [] rfl ?_ ?_ trivial ⟨rfl, trivial⟩ ?_
          · exact ⟨(iR rfl), (iV rfl), (iV rfl), (iV rfl), trivial⟩
          · exact ⟨(obE rfl rfl rfl), trivial⟩
          · kernel_rfl) ?_
        refine D_region ?_
        refine DL_c (op_mv _ (rfl : _ = AV.v (.int _ _))) ?_
        first
          | refine DL_c (op_add _ _ rfl rfl (i64w (by omega))) ?_
          | refine DL_c (op_add _ _ rfl rfl rfl) ?_
        refine DL_c (op_as _ (rfl : _ = AV.v (.int _ _))) ?_
        refine DL_nil ?_
        refine ⟨(z.1 + 1, y.2), ?_, ?_, ?_⟩
        · exact ⟨by simp only; omega, hyp, hup⟩
        · skip
          refine Le.mkJ [] [] rfl ?_ ?_ trivial ⟨rfl, trivial⟩ ?_
          · exact ⟨(iR rfl), (iV rfl), (iV rfl), (lvI (by first | rfl | omega | (simp; done) | (simp; omega) | assumption)), trivial⟩
          · exact ⟨(obR rfl rfl rfl (by first | rfl | omega | (simp; done) | (simp; omega) | assumption)), trivial⟩
          · kernel_rfl
        · simp only; omega
    · skip
      have hup : Upto y.2 (z.1 + 1) := hys.stop hy1 (.inl (by omega))
      refine any_n (rfl : _ = [_, _, _, _]) ?_
      refine any_cn rfl (fun τ => rfl) (by decide) ?_
      refine any_n (rfl : _ = [_, _, _, _, _]) ?_
      refine any_cn rfl (fun τ => rfl) (by decide) ?_
      refine any_n (rfl : _ = [_, _, _, _, _, _]) ?_
      refine any_cn rfl (fun τ => rfl) (by decide) ?_
      refine any_n (rfl : _ = [_, _, _, _, _, _, _]) ?_
      refine any_cn rfl (fun τ => rfl) (by decide) ?_
      refine any_n (rfl : _ = [_, _, _, _, _, _, _, _]) ?_
      refine any_cn rfl (fun τ => rfl) (by decide) ?_
      refine any_n (rfl : _ = [_, _, _, _, _, _, _, _, _]) ?_
      refine any_cn rfl (fun τ => rfl) (by decide) ?_
      refine any_n (rfl : _ = [_, _, _, _, _, _, _, _, _, _]) ?_
      refine any_cn rfl (fun τ => rfl) (by decide) ?_
      refine any_n (rfl : _ = [_, _, _, _, _, _, _, _, _, _, _]) ?_
      refine any_cn rfl (fun τ => rfl) (by decide) ?_
      refine any_n (rfl : _ = [_, _, _, _, _, _, _, _, _, _, _, _]) ?_
      refine any_cn rfl (fun τ => rfl) (by decide) ?_
      refine any_n (rfl : _ = [_, _, _, _, _, _, _, _, _, _, _, _, _]) ?_
      refine any_cn rfl (fun τ => rfl) (by decide) ?_
      refine any_n (rfl : _ = [_, _, _, _, _, _, _, _, _, _, _, _, _, _]) ?_
      refine any_c (_, []) (fun τ => op_pick _ _ _ rfl (rfl : _ = AV.v (.bool _))) ?_
      refine any_n (rfl : _ = [_, _, _, _, _, _, _, _, _, _, _, _, _, _, _]) ?_
      refine any_end ⟨rfl, ?_⟩
      refine DL_nil (hK7 _ ?_)
      clear hK7; try clear K7
      refine D_cF rfl rfl ?_
      refine D_exit ?_
      refine id (hK4 _ ?_)
      clear hK4; try clear K4
      refine D_le (σ' := mkStI 49 [(0, _), (1, _), (2, _), (6, _)] [((0, 9), _)] [(0, 9)] [(0, 9)]) (by
        refine Le.mkJ [] [] rfl ?_ ?_ trivial ⟨rfl, trivial⟩ ?_
        · exact ⟨(iR rfl), (iV rfl), (iV rfl), (iV rfl), trivial⟩
        · exact ⟨(obE rfl rfl rfl), trivial⟩
        · kernel_rfl) ?_
      refine D_region ?_
      refine DL_c (op_mv _ (rfl : _ = AV.v (.int _ _))) ?_
      first
        | refine DL_c (op_add _ _ rfl rfl (i64w (by omega))) ?_
        | refine DL_c (op_add _ _ rfl rfl rfl) ?_
      refine DL_c (op_as _ (rfl : _ = AV.v (.int _ _))) ?_
      refine DL_nil ?_
      refine ⟨(z.1 + 1, y.2), ?_, ?_, ?_⟩
      · exact ⟨by simp only; omega, hyp, hup⟩
      · skip
        refine Le.mkJ [] [] rfl ?_ ?_ trivial ⟨rfl, trivial⟩ ?_
        · exact ⟨(iR rfl), (iV rfl), (iV rfl), (lvI (by first | rfl | omega | (simp; done) | (simp; omega) | assumption)), trivial⟩
        · exact ⟨(obR rfl rfl rfl (by first | rfl | omega | (simp; done) | (simp; omega) | assumption)), trivial⟩
        · kernel_rfl
      · simp only; omega
  · skip
    have hfin : z.2 = srt L := srt_of hzp (upto_all (by intro p q h1 h2; exact hzu p q h1 (by omega)))
    refine D_exit ?_
    refine id ?_
    exact ret0 (.inl rfl) rfl (Le.outI [] [] (.tup rfl lv_nil) rfl rfl rfl trivial ⟨⟨rfl, ⟨_, rfl, .rowE (by rw [hfin])⟩, rfl⟩, trivial⟩ ⟨rfl, trivial⟩ rfl)
theorem pdq_spec (n : Nat) (hn : n ≤ 12) (L : List Int) (hL : L.length = n) (r : Int) :
    Spec Try.prog 137 (inStI [.ref (0, 9) 0 n, .v (.int .i64 0), .v (.int .i64 (n : Int)), .v (.int .i64 r)] [((0, 9), .row 3 1 (isl L))]) (outStI (.tup []) [((0, 9), .row 3 1 (isl (srt L)))] [(0, 9)] [(0, 9)]) := by
  refine Spec.ofNI Try.func137 rfl Try.ntmps137 rfl ?_
  refine D_seq fun K1 hK1 => ?_
  refine D_region ?_
  refine DL_c (op_as _ (rfl : _ = AV.v (.bool _))) ?_
  refine DL_nil (hK1 _ ?_)
  clear hK1; try clear K1
  refine D_seq fun K2 hK2 => ?_
  refine D_region ?_
  refine DL_c (op_as _ (rfl : _ = AV.v (.bool _))) ?_
  refine DL_nil (hK2 _ ?_)
  clear hK2; try clear K2
  refine D_block ?_
  refine D_loopL (α := Nat) (fun k => k = 0) 134 [(0, _), (1, _), (2, _), (3, _), (8, _), (9, _)] [((0, 9), _)] (fun k => []) (fun k => []) [(0, 9)] [(0, 9)] (fun k => k) 0 ?_ (by
    refine Le.mkJ [] [] rfl ?_ ?_ trivial ⟨rfl, trivial⟩ ?_
    · exact ⟨(iR rfl), (iV rfl), (iV rfl), (iV rfl), (iV rfl), (iV rfl), trivial⟩
    · exact ⟨(obE rfl rfl rfl), trivial⟩
    · kernel_rfl) ?_
  · rfl
  intro k hk
  refine D_block ?_
  refine D_seq fun K3 hK3 => ?_
  refine D_region ?_
  refine DL_c (op_mv _ (rfl : _ = AV.v (.int _ _))) ?_
  refine DL_c (op_mv _ (rfl : _ = AV.v (.int _ _))) ?_
  first
    | refine DL_c (op_sub _ _ rfl rfl (i64w (by omega))) ?_
    | refine DL_c (op_sub _ _ rfl rfl rfl) ?_
  refine DL_c (op_as _ (rfl : _ = AV.v (.int _ _))) ?_
  refine DL_nil (hK3 _ ?_)
  clear hK3; try clear K3
  refine D_seq fun K4 hK4 => ?_
  refine D_seq fun K5 hK5 => ?_
  refine D_region ?_
  refine DL_c (op_mv _ (rfl : _ = AV.v (.int _ _))) ?_
  first
    | refine DL_c (op_leq _ _ rfl rfl (by assumption)) ?_
    | refine DL_c (op_leq _ _ rfl rfl rfl) ?_
  refine DL_nil (hK5 _ ?_)
  clear hK5; try clear K5
  refine D_cT rfl (decide_eq_true (by omega)) ?_
  refine D_seq fun K6 hK6 => ?_
  refine D_region ?_
  refine DL_c (op_mv _ (rfl : _ = AV.ref _ _ _)) ?_
  refine DL_c (op_mv _ (rfl : _ = AV.v (.int _ _))) ?_
  refine DL_c (op_mv _ (rfl : _ = AV.v (.int _ _))) ?_
  refine DL_c (op_callR inferInstance [] ?_ (insort_spec n L hL (by omega)) ⟨⟨rfl, ⟨_, rfl, .rowE rfl⟩, rfl⟩, trivial⟩ ⟨rfl, trivial⟩ (by kernel_rfl)) ?_
  · repeat' (first | exact argsR_nil | refine argsR_cons ?_ ?_ | exact Lv.v | exact lvI (by assumption) | exact lvI (by omega) | exact Lv.sl | exact Lv.fp | exact Lv.nil | exact lvRr rfl rfl | exact lvPr rfl | refine Lv.agg rfl ?_ | refine Lv.fn rfl ?_ rfl ?_ | refine Lv.ifc ?_ | exact lv_nil | refine lv_cons ?_ ?_)
  refine DL_nil (hK6 _ ?_)
  clear hK6; try clear K6
  refine D_ret ?_
  exact ret0 (.inr rfl) rfl (Le.outI [] [] (.tup rfl lv_nil) rfl rfl rfl trivial ⟨⟨rfl, ⟨_, rfl, .rowE rfl⟩, rfl⟩, trivial⟩ ⟨rfl, trivial⟩ rfl)
theorem u8w {n : Int} (h : 0 ≤ n ∧ n < 256) : IntKind.u8.wrap n = n := by simp [IntKind.wrap, IntKind.bits, IntKind.signed]; omega
theorem len64_spec (x : Nat) (hx : x < 256) : ∃ r : Int, Spec Try.prog 150 (inSt [.v (.int .u64 (x : Int))] []) (outSt (.v (.int .i64 r)) []) := by
  apply Exists.intro
  refine Spec.ofN Try.func150 rfl Try.ntmps150 rfl ?_
  refine D_seq fun K1 hK1 => ?_
  refine D_region ?_
  refine DL_c (op_as _ (rfl : _ = AV.v (.int _ _))) ?_
  refine DL_nil (hK1 _ ?_)
  clear hK1; try clear K1
  refine D_seq fun K2 hK2 => ?_
  refine D_seq fun K3 hK3 => ?_
  refine D_region ?_
  refine DL_c (op_mv _ (rfl : _ = AV.v (.int _ _))) ?_
  first
    | refine DL_c (op_geq _ _ rfl rfl (by assumption)) ?_
    | refine DL_c (op_geq _ _ rfl rfl rfl) ?_
  refine DL_nil (hK3 _ ?_)
  clear hK3; try clear K3
  refine D_cF rfl (decide_eq_false (by omega)) ?_
  refine D_skip (hK2 _ ?_)
  clear hK2; try clear K2
  refine D_seq fun K4 hK4 => ?_
  refine D_seq fun K5 hK5 => ?_
  refine D_region ?_
  refine DL_c (op_mv _ (rfl : _ = AV.v (.int _ _))) ?_
  first
    | refine DL_c (op_geq _ _ rfl rfl (by assumption)) ?_
    | refine DL_c (op_geq _ _ rfl rfl rfl) ?_
  refine DL_nil (hK5 _ ?_)
  clear hK5; try clear K5
  refine D_cF rfl (decide_eq_false (by omega)) ?_
  refine D_skip (hK4 _ ?_)
  clear hK4; try clear K4
  refine D_seq fun K6 hK6 => ?_
  refine D_seq fun K7 hK7 => ?_
  refine D_region ?_
  refine DL_c (op_mv _ (rfl : _ = AV.v (.int _ _))) ?_
  first
    | refine DL_c (op_geq _ _ rfl rfl (by assumption)) ?_
    | refine DL_c (op_geq _ _ rfl rfl rfl) ?_
  refine DL_nil (hK7 _ ?_)
  clear hK7; try clear K7
  refine D_cF rfl (decide_eq_false (by omega)) ?_
  refine D_skip (hK6 _ ?_)
  clear hK6; try clear K6
  refine D_seq fun K8 hK8 => ?_
  refine D_region ?_
  refine DL_c (op_mv _ (rfl : _ = AV.v (.int _ _))) ?_
  refine DL_c (op_mv _ (rfl : _ = AV.v (.int _ _))) ?_
  refine DL_c (op_conv _ Try.underlying124 Try.underlying5 rfl (u8w (by omega))) ?_
  refine DL_c (op_ixStrN _ _ Try.underlying9 rfl rfl x rfl (N := 256) (by kernel_rfl) hx) ?_
  first
    | refine DL_c (op_conv _ Try.underlying5 Try.underlying3 rfl (i64w (by omega))) ?_
    | refine DL_c (op_conv _ Try.underlying5 Try.underlying3 rfl (u64w (by omega))) ?_
    | refine DL_c (op_conv _ Try.underlying5 Try.underlying3 rfl rfl) ?_
  refine DL_c (op_add _ _ rfl rfl rfl) ?_
  refine DL_c (op_as _ (rfl : _ = AV.v (.int _ _))) ?_
  refine DL_nil (hK8 _ ?_)
  clear hK8; try clear K8
  refine D_ret ?_
  exact ret1 (.inr rfl) rfl (.tmp (rfl : _ = AV.v (.int _ _))) (Le.out [] [] (lvI rfl) rfl rfl rfl trivial trivial)
theorem len_spec (x : Nat) (hx : x < 256) : ∃ r : Int, Spec Try.prog 138 (inSt [.v (.int .u64 (x : Int))] []) (outSt (.v (.int .i64 r)) []) := by
  obtain ⟨r, hr⟩ := len64_spec x hx
  refine ⟨r, ?_⟩
  refine Spec.ofN Try.func138 rfl Try.ntmps138 rfl ?_
  refine D_seq fun K1 hK1 => ?_
  refine D_region ?_
  refine DL_c (op_as _ (rfl : _ = AV.v (.int _ _))) ?_
  refine DL_nil (hK1 _ ?_)
  clear hK1; try clear K1
  refine D_seq fun K2 hK2 => ?_
  refine D_cF rfl rfl ?_
  refine D_skip (hK2 _ ?_)
  clear hK2; try clear K2
  refine D_seq fun K3 hK3 => ?_
  refine D_region ?_
  refine DL_c (op_mv _ (rfl : _ = AV.v (.int _ _))) ?_
  refine DL_c (op_callH inferInstance (by repeat' (first | exact argsLv_nil | refine argsLv_cons ?_ ?_ | exact Lv.v | exact lvI (by omega) | exact Lv.sl | exact Lv.fp | exact Lv.nil | refine Lv.agg rfl ?_ | refine Lv.fn rfl ?_ rfl ?_ | exact lv_nil | refine lv_cons ?_ ?_ | exact Lv.z0)) (hr) rfl rfl) ?_
  refine DL_c (op_as _ (rfl : _ = AV.v (.int _ _))) ?_
  refine DL_nil (hK3 _ ?_)
  clear hK3; try clear K3
  refine D_ret ?_
  refine ret1 (.inr rfl) rfl (.tmp (rfl : _ = AV.v (.int _ _))) (Le.out [] [] (lvI ?_) rfl rfl rfl trivial trivial)
  rfl
theorem sort_spec (n : Nat) (hn : n ≤ 12) (L : List Int) (hL : L.length = n) :
    Spec Try.prog 121 (inStI [.ref (0, 9) 0 n] [((0, 9), .row 3 1 (isl L))]) (outStI (.tup []) [((0, 9), .row 3 1 (isl (srt L)))] [(0, 9)] [(0, 9)]) := by
  obtain ⟨r, hr⟩ := len_spec n (by omega)
  refine Spec.ofNI Try.func121 rfl Try.ntmps121 rfl ?_
  refine D_seq fun K1 hK1 => ?_
  refine D_region ?_
  refine DL_c (op_mv _ (rfl : _ = AV.ref _ _ _)) ?_
  first
    | refine DL_c (op_lenR _ inferInstance rfl rfl) ?_
    | refine DL_c (op_lenB _ inferInstance rfl rfl) ?_
  refine DL_c (op_as _ (rfl : _ = AV.v (.int _ _))) ?_
  refine DL_nil (hK1 _ ?_)
  clear hK1; try clear K1
  refine D_region ?_
  refine DL_c (op_mv _ (rfl : _ = AV.ref _ _ _)) ?_
  refine DL_c (op_mv _ (rfl : _ = AV.v (.int _ _))) ?_
  refine DL_c (op_mv _ (rfl : _ = AV.v (.int _ _))) ?_
  refine DL_c (op_conv _ Try.underlying3 Try.underlying163 rfl (u64w (by omega))) ?_
  refine DL_c (op_callH inferInstance (by repeat' (first | exact argsLv_nil | refine argsLv_cons ?_ ?_ | exact Lv.v | exact lvI (by omega) | exact Lv.sl | exact Lv.fp | exact Lv.nil | refine Lv.agg rfl ?_ | refine Lv.fn rfl ?_ rfl ?_ | exact lv_nil | refine lv_cons ?_ ?_ | exact Lv.z0)) (hr) rfl rfl) ?_
  refine DL_c (op_callR inferInstance [] ?_ (pdq_spec n hn L hL r) ⟨⟨rfl, ⟨_, rfl, .rowE rfl⟩, rfl⟩, trivial⟩ ⟨rfl, trivial⟩ (by kernel_rfl)) ?_
  · repeat' (first | exact argsR_nil | refine argsR_cons ?_ ?_ | exact Lv.v | exact lvI (by assumption) | exact lvI (by omega) | exact Lv.sl | exact Lv.fp | exact Lv.nil | exact lvRr rfl rfl | exact lvPr rfl | refine Lv.agg rfl ?_ | refine Lv.fn rfl ?_ rfl ?_ | refine Lv.ifc ?_ | exact lv_nil | refine lv_cons ?_ ?_)
  refine DL_nil ?_
  exact ret0 (.inl rfl) rfl (Le.outI [] [] (.tup rfl lv_nil) rfl rfl rfl trivial ⟨⟨rfl, ⟨_, rfl, .rowE rfl⟩, rfl⟩, trivial⟩ ⟨rfl, trivial⟩ rfl)
end Go.Proofs.Ytkbkmngbenohkaa
