/- The reference's Status, minimal, Suspects, Minimal, Inherited by the machine. -/
import Derived.Test.YtkbkmngbenohkaaVoV5
set_option linter.unusedSimpArgs false
set_option linter.unusedVariables false
namespace Go.Proofs.Ytkbkmngbenohkaa
open Go.RowKit

structure GG (n : Nat) (Ps : List (List Int)) : Prop where
  len : Ps.length = n
  n64 : n ≤ 64
  V : Valid Ps
  m : ∀ v, (Ps.getD v []).length ≤ 64
  ac : ¬ ∃ a, a < n ∧ Clo (edg Ps n 0) a a
theorem Near.gg {Ps : List (List Int)} (h : Near Ps) : GG Ps.length Ps := ⟨rfl, by have := h.n; omega, h.valid, fun v => by have := h.rows v; omega, h.acyc⟩
theorem upE_lt {n : Nat} {Ps : List (List Int)} (h : GG n Ps) {v u : Nat} (hu : u ∈ upE Ps v) : u < n := h.len ▸ wat_lt hu
theorem upE_len (Ps : List (List Int)) (v : Nat) : (upE Ps v).length ≤ 64 := wat_len _ _
theorem rancN_spec (n : Nat) (Ps : List (List Int)) (h : GG n Ps) (v : Nat) :
    Spec Try.prog 66 (inSt [.sl n (nrows Ps), .v (.int .i64 (v : Int))] []) (outSt (.sl (upE Ps v).length (nsl (upE Ps v))) []) := by
  have h1 := rancestors_spec n Ps h.len (by have := h.n64; omega) h.V (fun v => by have := h.m v; omega) v
  have h2 : rat Ps (v : Int) = (upE Ps v).map fun (x : Nat) => (x : Int) := rat_els h.V (by rw [h.len]; exact h.n64) v
  rw [h2, List.length_map] at h1
  exact h1
open Classical in
theorem rminimal_spec (n : Nat) (Ps : List (List Int)) (hG : GG n Ps) (st : List Int) (hst : st.length = n) (v : Nat) (hv : v < n) :
    Spec Try.prog 104 (inSt [.sl n (nrows Ps), .sl n (isl st), .v (.int .i64 (v : Int))] []) (outSt (.v (.bool (decide (rmin Ps st v)))) []) := by
  have hn := hG.n64
  have hul := upE_len Ps v
  refine Spec.ofN Try.func104 rfl Try.ntmps104 rfl ?_
  refine D_seq fun K1 hK1 => ?_
  refine D_region ?_
  refine DL_c (op_as _ (rfl : _ = AV.v (.bool _))) ?_
  refine DL_nil (hK1 _ ?_)
  clear hK1; try clear K1
  refine D_seq fun K2 hK2 => ?_
  refine D_region ?_
  refine DL_c (op_mv _ (rfl : _ = AV.sl _ _)) ?_
  refine DL_c (op_mv _ (rfl : _ = AV.v (.int _ _))) ?_
  refine DL_c (op_callH inferInstance (by repeat' (first | exact argsLv_nil | refine argsLv_cons ?_ ?_ | exact Lv.v | exact lvI (by omega) | exact Lv.sl | exact Lv.fp | exact Lv.nil | refine Lv.agg rfl ?_ | refine Lv.fn rfl ?_ rfl ?_ | exact lv_nil | refine lv_cons ?_ ?_ | exact Lv.z0)) (rancN_spec n Ps hG v) rfl rfl) ?_
  refine DL_c (op_as _ (rfl : _ = AV.sl _ _)) ?_
  refine DL_nil (hK2 _ ?_)
  clear hK2; try clear K2
  refine D_seq fun K3 hK3 => ?_
  refine D_seq fun K4 hK4 => ?_
  refine D_region ?_
  refine DL_c (op_as _ (rfl : _ = AV.v (.int _ _))) ?_
  refine DL_nil (hK4 _ ?_)
  clear hK4; try clear K4
  refine D_block ?_
  refine D_loopL (α := Nat) (fun j => j ≤ (upE Ps v).length ∧ ∀ u ∈ (upE Ps v).take j, u ≠ v → st.getD u 0 ≠ 1) 39 [(1, _), (2, _), (7, _)] [] (fun j => [(8, .v (.int .i64 (j : Int)))]) (fun j => []) [] [] (fun j => (upE Ps v).length - j) 0 ?_ (by
    refine Le.mkJ [] [] rfl ?_ ?_ trivial trivial ?_
    · exact ⟨(iS rfl), (iV rfl), (iS rfl), (lvI (by first | rfl | omega | (simp; done) | (simp; omega) | assumption)), trivial⟩
    · exact trivial
    · kernel_rfl) ?_
  · exact ⟨by omega, fun u hu => by simp at hu⟩
  intro j hj
  obtain ⟨hj, hno⟩ := hj
  refine D_seq fun K5 hK5 => ?_
  refine D_seq fun K6 hK6 => ?_
  refine D_region ?_
  refine DL_c (op_mv _ (rfl : _ = AV.v (.int _ _))) ?_
  refine DL_c (op_mv _ (rfl : _ = AV.sl _ _)) ?_
  refine DL_c (op_lenS _ inferInstance rfl) ?_
  first
    | refine DL_c (op_lss _ _ rfl rfl (by assumption)) ?_
    | refine DL_c (op_lss _ _ rfl rfl rfl) ?_
  refine DL_nil (hK6 _ ?_)
  clear hK6; try clear K6
  refine D_splitC rfl (fun hc15 => ?_) (fun hc15 => ?_)
  · skip
    obtain ⟨u, hu⟩ : ∃ u, u = (upE Ps v).getD j 0 := ⟨_, rfl⟩
    have hum : u ∈ upE Ps v := hu ▸ getD_mem (by omega)
    have hun := upE_lt hG hum
    have htk : (upE Ps v).take (j + 1) = (upE Ps v).take j ++ [u] := by rw [take1 0 (by omega), hu]
    refine D_skip (hK5 _ ?_)
    clear hK5; try clear K5
    refine D_seq fun K7 hK7 => ?_
    refine D_block ?_
    refine D_seq fun K8 hK8 => ?_
    refine D_region ?_
    refine DL_c (op_mv _ (rfl : _ = AV.sl _ _)) ?_
    refine DL_c (op_mv _ (rfl : _ = AV.v (.int _ _))) ?_
    first
      | refine DL_c (op_ixS _ _ inferInstance rfl rfl _ rfl (by omega) (by first | assumption | decide | (simp only [isl_len, bsl_len, psl_len, mrows_len, nsl_len, ws_len, List.length_map, ul_len, psl_len, isl_len, nrows_len, prL_len, blR_len, stK_len, inh1_len, st0_len]; omega) | (simp; done) | (simp; omega) | (simp [isl, bsl]; omega)) (by first | exact Nat.mul_one _ | rfl | omega)) ?_
      | refine DL_c (op_ixS _ _ inferInstance rfl rfl (Int.toNat _) (Int.toNat_of_nonneg (by omega)).symm (by omega) (by first | assumption | decide | (simp only [isl_len, bsl_len, psl_len, mrows_len, nsl_len, ws_len, List.length_map, ul_len, psl_len, isl_len, nrows_len, prL_len, blR_len, stK_len, inh1_len, st0_len]; omega) | (simp; done) | (simp; omega) | (simp [isl, bsl]; omega)) (by first | exact Nat.mul_one _ | rfl | omega)) ?_
    refine DL_c (op_ldF _ inferInstance rfl (by exact (nsl_get _ _ (by omega)).trans (by rw [← hu])) rfl) ?_
    refine DL_c (op_mv _ (rfl : _ = AV.v (.int _ _))) ?_
    first
      | refine DL_c (op_neq _ _ rfl rfl (by assumption)) ?_
      | refine DL_c (op_neq _ _ rfl rfl rfl) ?_
    refine DL_c (op_mv _ (rfl : _ = AV.v (.bool _))) ?_
    refine DL_caseC (fun hg24 => ?_) (fun hg24 => ?_)
    · skip
      refine DL_cy rfl rfl (op_mv _ (rfl : _ = AV.sl _ _)) ?_
      refine DL_cy rfl rfl (op_mv _ (rfl : _ = AV.sl _ _)) ?_
      refine DL_cy rfl rfl (op_mv _ (rfl : _ = AV.v (.int _ _))) ?_
      first
        | refine DL_cy rfl rfl (op_ixS _ _ inferInstance rfl rfl _ rfl (by omega) (by first | assumption | decide | (simp only [isl_len, bsl_len, psl_len, mrows_len, nsl_len, ws_len, List.length_map, ul_len, psl_len, isl_len, nrows_len, prL_len, blR_len, stK_len, inh1_len, st0_len]; omega) | (simp; done) | (simp; omega) | (simp [isl, bsl]; omega)) (by first | exact Nat.mul_one _ | rfl | omega)) ?_
        | refine DL_cy rfl rfl (op_ixS _ _ inferInstance rfl rfl (Int.toNat _) (Int.toNat_of_nonneg (by omega)).symm (by omega) (by first | assumption | decide | (simp only [isl_len, bsl_len, psl_len, mrows_len, nsl_len, ws_len, List.length_map, ul_len, psl_len, isl_len, nrows_len, prL_len, blR_len, stK_len, inh1_len, st0_len]; omega) | (simp; done) | (simp; omega) | (simp [isl, bsl]; omega)) (by first | exact Nat.mul_one _ | rfl | omega)) ?_
      refine DL_cy rfl rfl (op_ldF _ inferInstance rfl (by exact (nsl_get _ _ (by omega)).trans (by rw [← hu])) rfl) ?_
      refine DL_cy rfl rfl (op_ixS _ _ inferInstance rfl rfl u rfl (by omega) (by simp; omega) (Nat.mul_one _)) ?_
      refine DL_cy rfl rfl (op_ldF _ inferInstance rfl (by first | rfl | exact isl_get _ _ (by omega) | exact bsl_get _ _ (by omega) | assumption | exact isl_get _ _ (by omega) | exact nsl_get _ _ (by omega) | exact nrows_get _ _ (by omega)) rfl) ?_
      first
        | refine DL_cy rfl rfl (op_eql _ _ rfl rfl (by assumption)) ?_
        | refine DL_cy rfl rfl (op_eql _ _ rfl rfl rfl) ?_
      refine DL_c (op_pick _ _ _ rfl (rfl : _ = AV.v (.bool _))) ?_
      refine DL_nil (hK8 _ ?_)
      clear hK8; try clear K8
      refine D_splitC rfl (fun hc33 => ?_) (fun hc33 => ?_)
      · skip
        refine D_seq fun K9 hK9 => ?_
        refine D_le (σ' := mkStI 39 [] [] [] []) (by
          refine Le.mkJ [] [] rfl ?_ ?_ trivial trivial ?_
          · exact trivial
          · exact trivial
          · kernel_rfl) ?_
        refine D_region ?_
        refine DL_c (op_as _ (rfl : _ = AV.v (.bool _))) ?_
        refine DL_nil (hK9 _ ?_)
        clear hK9; try clear K9
        refine D_ret ?_
        refine ret1 (.inr rfl) rfl (.tmp (rfl : _ = AV.v (.bool _))) (Le.out [] [] (lvB ?_) rfl rfl rfl trivial trivial)
        exact decide_eq_false fun h : rmin Ps st v => h.2 u hum (by omega) hc33
      · skip
        refine D_skip (hK7 _ ?_)
        clear hK7; try clear K7
        refine D_le (σ' := mkStI 39 [(1, _), (2, _), (7, _), (8, _)] [] [] []) (by
          refine Le.mkJ [] [] rfl ?_ ?_ trivial trivial ?_
          · exact ⟨(iS rfl), (iV rfl), (iS rfl), (iV rfl), trivial⟩
          · exact trivial
          · kernel_rfl) ?_
        refine D_region ?_
        refine DL_c (op_mv _ (rfl : _ = AV.v (.int _ _))) ?_
        first
          | refine DL_c (op_add _ _ rfl rfl (i64w (by omega))) ?_
          | refine DL_c (op_add _ _ rfl rfl rfl) ?_
        refine DL_c (op_as _ (rfl : _ = AV.v (.int _ _))) ?_
        refine DL_nil ?_
        refine ⟨j + 1, ?_, ?_, ?_⟩
        · exact ⟨by omega, fun x hx hne => by
            rw [htk] at hx
            rcases List.mem_append.1 hx with hx | hx
            · exact hno x hx hne
            · simp at hx
              subst hx
              first | exact hc33 | omega⟩
        · skip
          refine Le.mkJ [] [] rfl ?_ ?_ trivial trivial ?_
          · exact ⟨(iS rfl), (iV rfl), (iS rfl), (lvI (by first | rfl | omega | (simp; done) | (simp; omega) | assumption)), trivial⟩
          · exact trivial
          · kernel_rfl
        · omega
    · skip
      refine DL_cn rfl rfl (by decide) ?_
      refine DL_cn rfl rfl (by decide) ?_
      refine DL_cn rfl rfl (by decide) ?_
      refine DL_cn rfl rfl (by decide) ?_
      refine DL_cn rfl rfl (by decide) ?_
      refine DL_cn rfl rfl (by decide) ?_
      refine DL_cn rfl rfl (by decide) ?_
      refine DL_cn rfl rfl (by decide) ?_
      refine DL_c (op_pick _ _ _ rfl (rfl : _ = AV.v (.bool _))) ?_
      refine DL_nil (hK8 _ ?_)
      clear hK8; try clear K8
      refine D_cF rfl rfl ?_
      refine D_skip (hK7 _ ?_)
      clear hK7; try clear K7
      refine D_le (σ' := mkStI 39 [(1, _), (2, _), (7, _), (8, _)] [] [] []) (by
        refine Le.mkJ [] [] rfl ?_ ?_ trivial trivial ?_
        · exact ⟨(iS rfl), (iV rfl), (iS rfl), (iV rfl), trivial⟩
        · exact trivial
        · kernel_rfl) ?_
      refine D_region ?_
      refine DL_c (op_mv _ (rfl : _ = AV.v (.int _ _))) ?_
      first
        | refine DL_c (op_add _ _ rfl rfl (i64w (by omega))) ?_
        | refine DL_c (op_add _ _ rfl rfl rfl) ?_
      refine DL_c (op_as _ (rfl : _ = AV.v (.int _ _))) ?_
      refine DL_nil ?_
      refine ⟨j + 1, ?_, ?_, ?_⟩
      · exact ⟨by omega, fun x hx hne => by
          rw [htk] at hx
          rcases List.mem_append.1 hx with hx | hx
          · exact hno x hx hne
          · simp at hx
            subst hx
            first | exact hc33 | omega⟩
      · skip
        refine Le.mkJ [] [] rfl ?_ ?_ trivial trivial ?_
        · exact ⟨(iS rfl), (iV rfl), (iS rfl), (lvI (by first | rfl | omega | (simp; done) | (simp; omega) | assumption)), trivial⟩
        · exact trivial
        · kernel_rfl
      · omega
  · skip
    have htl : (upE Ps v).take j = upE Ps v := List.take_of_length_le (by omega)
    rw [htl] at hno
    refine D_exit ?_
    refine id (hK3 _ ?_)
    clear hK3; try clear K3
    refine D_seq fun K10 hK10 => ?_
    refine D_region ?_
    refine DL_c (op_mv _ (rfl : _ = AV.sl _ _)) ?_
    refine DL_c (op_mv _ (rfl : _ = AV.v (.int _ _))) ?_
    refine DL_c (op_ixS _ _ inferInstance rfl rfl v rfl (by omega) (by simp; omega) (Nat.mul_one _)) ?_
    refine DL_c (op_ldF _ inferInstance rfl (by first | rfl | exact isl_get _ _ (by omega) | exact bsl_get _ _ (by omega) | assumption | exact isl_get _ _ (by omega) | exact nsl_get _ _ (by omega) | exact nrows_get _ _ (by omega)) rfl) ?_
    first
      | refine DL_c (op_eql _ _ rfl rfl (by assumption)) ?_
      | refine DL_c (op_eql _ _ rfl rfl rfl) ?_
    refine DL_c (op_as _ (rfl : _ = AV.v (.bool _))) ?_
    refine DL_nil (hK10 _ ?_)
    clear hK10; try clear K10
    refine D_ret ?_
    refine ret1 (.inr rfl) rfl (.tmp (rfl : _ = AV.v (.bool _))) (Le.out [] [] (lvB ?_) rfl rfl rfl trivial trivial)
    rw [Bool.eq_iff_iff]; simp only [decide_eq_true_eq, beq_iff_eq]; exact ⟨fun h => h.1, fun h => ⟨h, hno⟩⟩
theorem filter_take_snoc {p : Int → Bool} {l : List Int} {j : Nat} (h : j < l.length) : (l.take (j + 1)).filter p = (l.take j).filter p ++ if p (l.getD j 0) = true then [l.getD j 0] else [] := by
  rw [take1 0 h, List.filter_append]
  congr 1
  by_cases hp : p (l.getD j 0) = true
  · rw [if_pos hp, List.filter_cons, if_pos hp]; rfl
  · rw [if_neg hp, List.filter_cons, if_neg hp]; rfl
theorem rsuspects_spec (n : Nat) (Ps : List (List Int)) (hG : GG n Ps) (st : List Int) (hst : st.length = n) (v : Nat) (hv : v < n) :
    Spec Try.prog 105 (inSt [.sl n (nrows Ps), .sl n (isl st), .v (.int .i64 (v : Int))] []) (outSt (.sl (els (susW n (edg Ps n 0) (whr st 2).testBit v)).length (nsl (els (susW n (edg Ps n 0) (whr st 2).testBit v)))) []) := by
  have hn := hG.n64
  have hPs := hG.len
  have hnr : (nrows Ps).length = n := by simp [hPs]
  have hV' := Pst_valid (st := st) hG.V
  have hpl : (Pst Ps st).length = n := by rw [Pst_len, hPs]
  have hfe : ssrt (abv (Pst Ps st) [(v : Int)]).tail = (els (susW n (edg Ps n 0) (whr st 2).testBit v)).map fun (x : Nat) => (x : Int) := by
    have := sus_els hG.V (by omega) (by rw [hPs]; exact hG.ac) (st := st) (by omega) (v := v) (by omega)
    rw [hPs] at this; exact this
  refine Spec.ofN Try.func105 rfl Try.ntmps105 rfl ?_
  refine D_seq fun K1 hK1 => ?_
  refine D_region ?_
  first
    | refine DL_c (op_as _ (rfl : _ = AV.sl _ _)) ?_
    | refine DL_c (op_as _ (rfl : _ = AV.ref _ _ _)) ?_
    | refine DL_c (op_as _ (rfl : _ = AV.v (.slice _ _ _))) ?_
    | refine DL_c (op_as _ (rfl : _ = AV.z)) ?_
  refine DL_nil (hK1 _ ?_)
  clear hK1; try clear K1
  refine D_seq fun K2 hK2 => ?_
  refine D_region ?_
  refine DL_c (op_asN (7, 0) _ 3 1 rfl rfl) ?_
  refine DL_nil (hK2 _ ?_)
  clear hK2; try clear K2
  refine D_seq fun K3 hK3 => ?_
  refine D_region ?_
  refine DL_c (op_mv _ (rfl : _ = AV.v (.int _ _))) ?_
  refine DL_c (op_bs (13, 0) _ _ inferInstance rfl (by rfl) (by simp <;> rfl) (by decide) rfl rfl) ?_
  refine DL_c (op_as _ (rfl : _ = AV.ref _ _ _)) ?_
  refine DL_nil (hK3 _ ?_)
  clear hK3; try clear K3
  refine D_seq fun K4 hK4 => ?_
  refine D_seq fun K5 hK5 => ?_
  refine D_region ?_
  refine DL_c (op_as _ (rfl : _ = AV.v (.int _ _))) ?_
  refine DL_nil (hK5 _ ?_)
  clear hK5; try clear K5
  refine D_block ?_
  refine D_loopL (α := Nat × List Int) (fun z => AB (Pst Ps st) [(v : Int)] z.1 ((v : Int) :: z.2)) 63 [(0, _), (1, _)] [] (fun z => [(9, .v (.int .i64 (z.1 : Int))), (7, .ref (7, 0) 0 z.2.length), (8, .ref (13, 0) 0 (z.2.length + 1))]) (fun z => [((7, 0), .row 3 1 (isl z.2)), ((13, 0), .row 3 1 (isl ((v : Int) :: z.2)))]) [] [] (fun z => n - z.1) (0, []) ?_ (by
    refine Le.mkJ [] [] rfl ?_ ?_ trivial trivial ?_
    · exact ⟨(iS rfl), (iS rfl), (lvI (by first | rfl | omega | (simp; done) | (simp; omega) | assumption)), (lvRr rfl (by first | rfl | omega | (simp; done) | (simp; omega) | assumption)), (lvRr rfl (by first | rfl | omega | (simp; done) | (simp; omega) | assumption)), trivial⟩
    · exact ⟨(obR rfl rfl rfl (by first | rfl | omega | (simp; done) | (simp; omega) | assumption)), (obR rfl rfl rfl (by first | rfl | omega | (simp; done) | (simp; omega) | assumption)), trivial⟩
    · kernel_rfl) ?_
  · exact AB.start (by rw [hpl]; exact ok_one hv)
  intro z hz
  have hzl := hpl ▸ hz.len
  have hzi := hz.hi
  have hzn := hz.nd
  rw [List.length_cons] at hzl hzi
  refine D_seq fun K6 hK6 => ?_
  refine D_seq fun K7 hK7 => ?_
  refine D_region ?_
  refine DL_c (op_mv _ (rfl : _ = AV.v (.int _ _))) ?_
  refine DL_c (op_mv _ (rfl : _ = AV.ref _ _ _)) ?_
  first
    | refine DL_c (op_lenR _ inferInstance rfl rfl) ?_
    | refine DL_c (op_lenB _ inferInstance rfl rfl) ?_
  first
    | refine DL_c (op_lss _ _ rfl rfl (by assumption)) ?_
    | refine DL_c (op_lss _ _ rfl rfl rfl) ?_
  refine DL_nil (hK7 _ ?_)
  clear hK7; try clear K7
  refine D_splitC rfl (fun hc17 => ?_) (fun hc17 => ?_)
  · skip
    have hr := hz.rng _ (getD_memI (show z.1 < ((v : Int) :: z.2).length by rw [List.length_cons]; omega))
    obtain ⟨a, ha⟩ := Int.eq_ofNat_of_zero_le hr.1
    have han : a < n := by omega
    have hsl := fun j => adds_len hV' hz (show a < (Pst Ps st).length by omega) j
    have hml := hG.m a
    have hst2 := hz.step hV' (show z.1 < ((v : Int) :: z.2).length by rw [List.length_cons]; omega)
    rw [ha, Int.toNat_natCast, Pst_get] at hst2
    have hall : ∀ j, ∃ t, adds ((v : Int) :: z.2) (((Ps.getD a []).take j).filter (unt st)) = (v : Int) :: t ∧ t.length < n ∧ ((v : Int) :: t).Nodup := by
      intro j
      obtain ⟨t, ht⟩ := adds_pre (((Ps.getD a []).take j).filter (unt st)) ((v : Int) :: z.2)
      refine ⟨z.2 ++ t, by rw [ht]; rfl, ?_, by rw [← List.cons_append, ← ht]; exact adds_nodup hzn⟩
      have h1 := ints_len (n := n) (H := adds ((v : Int) :: z.2) (((Ps.getD a []).take j).filter (unt st))) (adds_nodup hzn) (fun x hx => by
        rcases adds_mem.1 hx with hx | hx
        · have := hz.rng x hx; omega
        · have := (hG.V a (by omega)).2 x (List.mem_of_mem_take (List.mem_filter.1 hx).1); omega)
      rw [ht] at h1
      simp only [List.cons_append, List.length_cons] at h1
      omega
    have hpv : ∀ p ∈ Ps.getD a [], p ≠ (v : Int) := by
      intro p hp e
      subst e
      have he : Clo (edg Ps n 0) v a := .one ((edg_par han).2 hp)
      rcases hz.src _ (getD_memI (show z.1 < ((v : Int) :: z.2).length by rw [List.length_cons]; omega)) with h1 | ⟨f, h1, h2⟩
      · rw [ha] at h1; simp at h1; exact hG.ac ⟨v, hv, (show a = v by omega) ▸ he⟩
      · simp at h1; subst h1
        rw [ha, Int.toNat_natCast, Int.toNat_natCast, hpl] at h2
        have h3 := fst_clo ((Pst_clo (by omega)).1 (hPs.symm ▸ h2))
        exact hG.ac ⟨v, hv, he.trans (hPs ▸ h3)⟩
    refine D_skip (hK6 _ ?_)
    clear hK6; try clear K6
    refine D_seq fun K8 hK8 => ?_
    refine D_block ?_
    refine D_seq fun K9 hK9 => ?_
    refine D_region ?_
    refine DL_c (op_as _ (rfl : _ = AV.v (.int _ _))) ?_
    refine DL_nil (hK9 _ ?_)
    clear hK9; try clear K9
    refine D_block ?_
    refine D_loopL (α := Nat × List Int) (fun y => y.1 ≤ (Ps.getD a []).length ∧ adds ((v : Int) :: z.2) (((Ps.getD a []).take y.1).filter (unt st)) = (v : Int) :: y.2) 63 [(0, _), (1, _), (9, _)] [] (fun y => [(10, .v (.int .i64 (y.1 : Int))), (7, .ref (7, 0) 0 y.2.length), (8, .ref (13, 0) 0 (y.2.length + 1))]) (fun y => [((7, 0), .row 3 1 (isl y.2)), ((13, 0), .row 3 1 (isl ((v : Int) :: y.2)))]) [] [] (fun y => (Ps.getD a []).length - y.1) (0, z.2) ?_ (by
      refine Le.mkJ [] [] rfl ?_ ?_ trivial trivial ?_
      · exact ⟨(iS rfl), (iS rfl), (iV rfl), (lvI (by first | rfl | omega | (simp; done) | (simp; omega) | assumption)), (lvRr rfl (by first | rfl | omega | (simp; done) | (simp; omega) | assumption)), (lvRr rfl (by first | rfl | omega | (simp; done) | (simp; omega) | assumption)), trivial⟩
      · exact ⟨(obR rfl rfl rfl (by first | rfl | omega | (simp; done) | (simp; omega) | assumption)), (obR rfl rfl rfl (by first | rfl | omega | (simp; done) | (simp; omega) | assumption)), trivial⟩
      · kernel_rfl) ?_
    · exact ⟨by simp only; omega, rfl⟩
    intro y hy
    obtain ⟨hyl, hya⟩ := hy
    have hyn : y.2.length < n ∧ ((v : Int) :: y.2).Nodup := by
      obtain ⟨t, h1, h2, h3⟩ := hall y.1
      rw [hya] at h1
      injection h1 with _ h4
      subst h4; exact ⟨h2, h3⟩
    have hgj : ((v : Int) :: y.2).getD z.1 0 = (a : Int) := by
      rw [← hya, adds_get (by rw [List.length_cons]; omega), ha]
    have hlj : z.2.length ≤ y.2.length := by
      obtain ⟨t, ht⟩ := adds_pre (((Ps.getD a []).take y.1).filter (unt st)) ((v : Int) :: z.2)
      rw [hya] at ht
      have := congrArg List.length ht
      simp only [List.length_cons, List.length_append] at this
      omega
    have hcl : ((v : Int) :: y.2).length = y.2.length + 1 := List.length_cons
    refine D_seq fun K10 hK10 => ?_
    refine D_seq fun K11 hK11 => ?_
    refine D_region ?_
    refine DL_c (op_mv _ (rfl : _ = AV.v (.int _ _))) ?_
    refine DL_c (op_mv _ (rfl : _ = AV.sl _ _)) ?_
    refine DL_c (op_mv _ (rfl : _ = AV.ref _ _ _)) ?_
    refine DL_c (op_mv _ (rfl : _ = AV.v (.int _ _))) ?_
    refine DL_c (op_ixR _ _ inferInstance rfl rfl rfl z.1 rfl (by omega) (by exact (Nat.zero_add _).trans (Nat.mul_one _))) ?_
    refine DL_c (op_ldR _ inferInstance rfl rfl (by exact (isl_get _ _ (by omega)).trans (by rw [hgj])) rfl) ?_
    refine DL_c (op_ixS _ _ inferInstance rfl rfl a rfl (by omega) (by omega) (Nat.mul_one _)) ?_
    refine DL_c (op_ldF _ inferInstance rfl (by exact nrows_get _ _ (by omega)) rfl) ?_
    first
      | refine DL_c (op_lenS _ inferInstance rfl) ?_
      | refine DL_c (op_lenR _ inferInstance rfl rfl) ?_
      | refine DL_c (op_lenN _ inferInstance rfl) ?_
      | refine DL_c (op_lenB _ inferInstance rfl rfl) ?_
      | refine DL_c (op_lenZ _ inferInstance rfl) ?_
    first
      | refine DL_c (op_lss _ _ rfl rfl (by assumption)) ?_
      | refine DL_c (op_lss _ _ rfl rfl rfl) ?_
    refine DL_nil (hK11 _ ?_)
    clear hK11; try clear K11
    refine D_splitC rfl (fun hc29 => ?_) (fun hc29 => ?_)
    · skip
      have hpm := getD_memI (show y.1 < (Ps.getD a []).length by omega)
      have hpb := (hG.V a (by omega)).2 _ hpm
      have hpne := hpv _ hpm
      obtain ⟨b, hbe⟩ := Int.eq_ofNat_of_zero_le hpb.1
      have hbn : b < n := by omega
      have hun : unt st ((Ps.getD a []).getD y.1 0) = decide (st.getD b 0 = 2) := by rw [hbe]; rfl
      have hnx := filter_take_snoc (p := unt st) (show y.1 < (Ps.getD a []).length by omega)
      rw [hun, hbe] at hnx
      rw [hbe] at hpne
      have hmt : (b : Int) ∈ (v : Int) :: y.2 ↔ (b : Int) ∈ y.2 := by simp [hpne]
      refine D_skip (hK10 _ ?_)
      clear hK10; try clear K10
      refine D_seq fun K12 hK12 => ?_
      refine D_block ?_
      refine D_seq fun K13 hK13 => ?_
      refine D_region ?_
      refine DL_c (op_mv _ (rfl : _ = AV.sl _ _)) ?_
      refine DL_c (op_mv _ (rfl : _ = AV.ref _ _ _)) ?_
      refine DL_c (op_mv _ (rfl : _ = AV.v (.int _ _))) ?_
      refine DL_c (op_ixR _ _ inferInstance rfl rfl rfl z.1 rfl (by omega) (by exact (Nat.zero_add _).trans (Nat.mul_one _))) ?_
      refine DL_c (op_ldR _ inferInstance rfl rfl (by exact (isl_get _ _ (by omega)).trans (by rw [hgj])) rfl) ?_
      refine DL_c (op_ixS _ _ inferInstance rfl rfl a rfl (by omega) (by omega) (Nat.mul_one _)) ?_
      refine DL_c (op_ldF _ inferInstance rfl (by exact nrows_get _ _ (by omega)) rfl) ?_
      refine DL_c (op_mv _ (rfl : _ = AV.v (.int _ _))) ?_
      first
        | refine DL_c (op_ixS _ _ inferInstance rfl rfl _ rfl (by omega) (by first | assumption | decide | (simp only [isl_len, bsl_len, psl_len, mrows_len, nsl_len, ws_len, List.length_map, ul_len, psl_len, isl_len, nrows_len, prL_len, blR_len, stK_len, inh1_len, st0_len]; omega) | (simp; done) | (simp; omega) | (simp [isl, bsl]; omega)) (by first | exact Nat.mul_one _ | rfl | omega)) ?_
        | refine DL_c (op_ixS _ _ inferInstance rfl rfl (Int.toNat _) (Int.toNat_of_nonneg (by omega)).symm (by omega) (by first | assumption | decide | (simp only [isl_len, bsl_len, psl_len, mrows_len, nsl_len, ws_len, List.length_map, ul_len, psl_len, isl_len, nrows_len, prL_len, blR_len, stK_len, inh1_len, st0_len]; omega) | (simp; done) | (simp; omega) | (simp [isl, bsl]; omega)) (by first | exact Nat.mul_one _ | rfl | omega)) ?_
        | refine DL_c (op_ixR _ _ inferInstance rfl rfl rfl _ rfl (by omega) (by first | exact (Nat.zero_add _).trans (Nat.mul_one _) | exact Nat.zero_add _ | rfl | omega)) ?_
        | refine DL_c (op_ixR _ _ inferInstance rfl rfl rfl (Int.toNat _) (Int.toNat_of_nonneg (by omega)).symm (by omega) (by first | exact (Nat.zero_add _).trans (Nat.mul_one _) | exact Nat.zero_add _ | rfl | omega)) ?_
        | refine DL_c (op_ixB _ _ inferInstance rfl rfl rfl _ rfl (by omega) (by first | exact (Nat.zero_add _).trans (Nat.mul_one _) | exact Nat.zero_add _ | rfl | omega)) ?_
        | refine DL_c (op_ixB _ _ inferInstance rfl rfl rfl (Int.toNat _) (Int.toNat_of_nonneg (by omega)).symm (by omega) (by first | exact (Nat.zero_add _).trans (Nat.mul_one _) | exact Nat.zero_add _ | rfl | omega)) ?_
      refine DL_c (op_ldF _ inferInstance rfl (by exact (isl_get _ _ (by omega)).trans (by rw [hbe])) rfl) ?_
      refine DL_c (op_as _ (rfl : _ = AV.v (.int _ _))) ?_
      refine DL_nil (hK13 _ ?_)
      clear hK13; try clear K13
      refine D_seq fun K14 hK14 => ?_
      refine D_le (σ' := mkStI 63 [(0, _), (1, _), (7, _), (8, _), (9, _), (10, _), (11, _)] [((7, 0), _), ((13, 0), _)] [] []) (by
        refine Le.mkJ [] [] rfl ?_ ?_ trivial trivial ?_
        · exact ⟨(iS rfl), (iS rfl), (iR rfl), (iR rfl), (iV rfl), (iV rfl), (iV rfl), trivial⟩
        · exact ⟨(obE rfl rfl rfl), (obE rfl rfl rfl), trivial⟩
        · kernel_rfl) ?_
      refine D_region ?_
      refine DL_c (op_mv _ (rfl : _ = AV.sl _ _)) ?_
      refine DL_c (op_mv _ (rfl : _ = AV.v (.int _ _))) ?_
      refine DL_c (op_ixS _ _ inferInstance rfl rfl b rfl (by omega) (by simp; omega) (Nat.mul_one _)) ?_
      refine DL_c (op_ldF _ inferInstance rfl (by first | rfl | exact isl_get _ _ (by omega) | exact bsl_get _ _ (by omega) | assumption | exact isl_get _ _ (by omega) | exact nsl_get _ _ (by omega) | exact nrows_get _ _ (by omega)) rfl) ?_
      first
        | refine DL_c (op_eql _ _ rfl rfl (by assumption)) ?_
        | refine DL_c (op_eql _ _ rfl rfl rfl) ?_
      refine DL_c (op_mv _ (rfl : _ = AV.v (.bool _))) ?_
      refine DL_caseC (fun hg47 => ?_) (fun hg47 => ?_)
      · skip
        refine DL_cy rfl rfl (op_mv _ (rfl : _ = AV.ref _ _ _)) ?_
        refine DL_cy rfl rfl (op_mv _ (rfl : _ = AV.v (.int _ _))) ?_
        refine DL_cy rfl rfl (op_callBH inferInstance (by repeat' (first | exact argsLv_nil | refine argsLv_cons ?_ ?_ | exact Lv.v | exact lvI (by omega) | exact Lv.sl | exact Lv.fp | exact Lv.nil | refine Lv.agg rfl ?_ | refine Lv.fn rfl ?_ rfl ?_ | exact lv_nil | refine lv_cons ?_ ?_ | (refine frz0 rfl rfl ?_ rfl; first | (simp; done) | (simp; omega) | omega) | exact Lv.frzP rfl rfl rfl)) (has_spec y.2.length y.2 (b : Int) rfl (by omega)) rfl) ?_
        refine DL_cy rfl rfl (op_not _ rfl rfl) ?_
        refine DL_c (op_pick _ _ _ rfl (rfl : _ = AV.v (.bool _))) ?_
        refine DL_nil (hK14 _ ?_)
        clear hK14; try clear K14
        refine D_splitC rfl (fun hc52 => ?_) (fun hc52 => ?_)
        · skip
          refine D_seq fun K15 hK15 => ?_
          refine D_region ?_
          refine DL_c (op_mv _ (rfl : _ = AV.ref _ _ _)) ?_
          refine DL_c (op_mv _ (rfl : _ = AV.v (.int _ _))) ?_
          refine DL_c (op_bsF _ _ inferInstance rfl (by rfl) (by simp <;> rfl) (by decide) rfl) ?_
          refine DL_c (op_ap (56, 0) _ _ inferInstance rfl rfl (by first | rfl | omega | (simp only [isl_len, bsl_len, psl_len, mrows_len, nsl_len, ws_len, List.length_map, ul_len, psl_len, isl_len, nrows_len, prL_len, blR_len, stK_len, inh1_len, st0_len]; omega) | (simp; done) | (simp; omega)) (by first | exact .nil | (refine .sl ?_; first | (simp [isl]; done) | (simp [isl]; omega)) | (refine .ref rfl rfl ?_; first | (simp; done) | (simp; omega))) (by omega) rfl (rfl) (rfl)) ?_
          refine DL_c (op_as _ (rfl : _ = AV.ref _ _ _)) ?_
          refine DL_nil (hK15 _ ?_)
          clear hK15; try clear K15
          refine D_le (σ' := mkStI 63 [(0, _), (1, _), (7, _), (8, _), (9, _), (10, _), (11, _)] [((13, 0), _), ((56, 0), _)] [] []) (by
            refine Le.mkJ [] [] rfl ?_ ?_ trivial trivial ?_
            · exact ⟨(iS rfl), (iS rfl), (iR rfl), (iR rfl), (iV rfl), (iV rfl), (iV rfl), trivial⟩
            · exact ⟨(obE rfl rfl rfl), (obE rfl rfl rfl), trivial⟩
            · kernel_rfl) ?_
          refine D_region ?_
          refine DL_c (op_mv _ (rfl : _ = AV.ref _ _ _)) ?_
          refine DL_c (op_mv _ (rfl : _ = AV.v (.int _ _))) ?_
          refine DL_c (op_bsF _ _ inferInstance rfl (by rfl) (by simp <;> rfl) (by decide) rfl) ?_
          refine DL_c (op_ap (60, 0) _ _ inferInstance rfl rfl (by first | rfl | omega | (simp only [isl_len, bsl_len, psl_len, mrows_len, nsl_len, ws_len, List.length_map, ul_len, psl_len, isl_len, nrows_len, prL_len, blR_len, stK_len, inh1_len, st0_len]; omega) | (simp; done) | (simp; omega)) (by first | exact .nil | (refine .sl ?_; first | (simp [isl]; done) | (simp [isl]; omega)) | (refine .ref rfl rfl ?_; first | (simp; done) | (simp; omega))) (by omega) rfl (rfl) (rfl)) ?_
          refine DL_c (op_as _ (rfl : _ = AV.ref _ _ _)) ?_
          refine DL_nil (hK12 _ ?_)
          clear hK12; try clear K12
          refine D_region ?_
          refine DL_c (op_mv _ (rfl : _ = AV.v (.int _ _))) ?_
          first
            | refine DL_c (op_add _ _ rfl rfl (i64w (by omega))) ?_
            | refine DL_c (op_add _ _ rfl rfl rfl) ?_
          refine DL_c (op_as _ (rfl : _ = AV.v (.int _ _))) ?_
          refine DL_nil ?_
          refine ⟨(y.1 + 1, y.2 ++ [(b : Int)]), ?_, ?_, ?_⟩
          · exact ⟨by simp only; omega, by
              simp only
              rw [hnx, decide_eq_true hg47, if_pos rfl, adds_snoc, hya, add1, if_neg (by rw [hmt]; simpa using hc52)]; rfl⟩
          · skip
            refine Le.mkJ [((7, 0), (56, 0)), ((13, 0), (60, 0))] [] rfl ?_ ?_ trivial trivial ?_
            · exact ⟨(by repeat' (first | exact Lv.v | exact Lv.sl | exact Lv.fp | exact lvRr (id := (7, 0)) rfl rfl | exact lvPr (id := (7, 0)) rfl | exact lvRr (id := (13, 0)) rfl rfl | exact lvPr (id := (13, 0)) rfl | exact lvRr rfl rfl | exact lvPr rfl | exact Lv.mp | exact Lv.nil | exact Lv.z | exact Lv.dead | refine Lv.agg rfl ?_ | refine Lv.fn rfl ?_ rfl ?_ | refine Lv.tup rfl ?_ | refine Lv.ifc ?_ | exact lv_nil | refine lv_cons ?_ ?_)), (by repeat' (first | exact Lv.v | exact Lv.sl | exact Lv.fp | exact lvRr (id := (7, 0)) rfl rfl | exact lvPr (id := (7, 0)) rfl | exact lvRr (id := (13, 0)) rfl rfl | exact lvPr (id := (13, 0)) rfl | exact lvRr rfl rfl | exact lvPr rfl | exact Lv.mp | exact Lv.nil | exact Lv.z | exact Lv.dead | refine Lv.agg rfl ?_ | refine Lv.fn rfl ?_ rfl ?_ | refine Lv.tup rfl ?_ | refine Lv.ifc ?_ | exact lv_nil | refine lv_cons ?_ ?_)), (by repeat' (first | exact Lv.v | exact Lv.sl | exact Lv.fp | exact lvRr (id := (7, 0)) rfl rfl | exact lvPr (id := (7, 0)) rfl | exact lvRr (id := (13, 0)) rfl rfl | exact lvPr (id := (13, 0)) rfl | exact lvRr rfl rfl | exact lvPr rfl | exact Lv.mp | exact Lv.nil | exact Lv.z | exact Lv.dead | refine Lv.agg rfl ?_ | refine Lv.fn rfl ?_ rfl ?_ | refine Lv.tup rfl ?_ | refine Lv.ifc ?_ | exact lv_nil | refine lv_cons ?_ ?_)), (lvI (by first | rfl | omega | (simp; done) | (simp; omega) | assumption)), (lvRr rfl (by first | rfl | omega | (simp; done) | (simp; omega) | assumption)), (lvRr rfl (by first | rfl | omega | (simp; done) | (simp; omega) | assumption)), trivial⟩
            · exact ⟨(obR rfl rfl rfl (by simp [isl])), (obR rfl rfl rfl (by simp [isl])), trivial⟩
            · kernel_rfl
          · simp only; omega
        · skip
          refine D_skip (hK12 _ ?_)
          clear hK12; try clear K12
          refine D_region ?_
          refine DL_c (op_mv _ (rfl : _ = AV.v (.int _ _))) ?_
          first
            | refine DL_c (op_add _ _ rfl rfl (i64w (by omega))) ?_
            | refine DL_c (op_add _ _ rfl rfl rfl) ?_
          refine DL_c (op_as _ (rfl : _ = AV.v (.int _ _))) ?_
          refine DL_nil ?_
          refine ⟨(y.1 + 1, y.2), ?_, ?_, ?_⟩
          · exact ⟨by simp only; omega, by
              simp only
              rw [hnx, decide_eq_true hg47, if_pos rfl, adds_snoc, hya, add1, if_pos (by rw [hmt]; simpa using hc52)]⟩
          · skip
            refine Le.mkJ [] [] rfl ?_ ?_ trivial trivial ?_
            · exact ⟨(iS rfl), (iS rfl), (iV rfl), (lvI (by first | rfl | omega | (simp; done) | (simp; omega) | assumption)), (lvRr rfl (by first | rfl | omega | (simp; done) | (simp; omega) | assumption)), (lvRr rfl (by first | rfl | omega | (simp; done) | (simp; omega) | assumption)), trivial⟩
            · exact ⟨(obR rfl rfl rfl (by first | rfl | omega | (simp; done) | (simp; omega) | assumption)), (obR rfl rfl rfl (by first | rfl | omega | (simp; done) | (simp; omega) | assumption)), trivial⟩
            · kernel_rfl
          · simp only; omega
      · skip
        refine DL_cn rfl rfl (by decide) ?_
        refine DL_cn rfl rfl (by decide) ?_
        refine DL_cn rfl rfl (by decide) ?_
        refine DL_cn rfl rfl (by decide) ?_
        refine DL_c (op_pick _ _ _ rfl (rfl : _ = AV.v (.bool _))) ?_
        refine DL_nil (hK14 _ ?_)
        clear hK14; try clear K14
        refine D_cF rfl rfl ?_
        refine D_skip (hK12 _ ?_)
        clear hK12; try clear K12
        refine D_region ?_
        refine DL_c (op_mv _ (rfl : _ = AV.v (.int _ _))) ?_
        first
          | refine DL_c (op_add _ _ rfl rfl (i64w (by omega))) ?_
          | refine DL_c (op_add _ _ rfl rfl rfl) ?_
        refine DL_c (op_as _ (rfl : _ = AV.v (.int _ _))) ?_
        refine DL_nil ?_
        refine ⟨(y.1 + 1, y.2), ?_, ?_, ?_⟩
        · exact ⟨by simp only; omega, by
            simp only
            rw [hnx, decide_eq_false hg47, if_neg (by simp), List.append_nil, hya]⟩
        · skip
          refine Le.mkJ [] [] rfl ?_ ?_ trivial trivial ?_
          · exact ⟨(iS rfl), (iS rfl), (iV rfl), (lvI (by first | rfl | omega | (simp; done) | (simp; omega) | assumption)), (lvRr rfl (by first | rfl | omega | (simp; done) | (simp; omega) | assumption)), (lvRr rfl (by first | rfl | omega | (simp; done) | (simp; omega) | assumption)), trivial⟩
          · exact ⟨(obR rfl rfl rfl (by first | rfl | omega | (simp; done) | (simp; omega) | assumption)), (obR rfl rfl rfl (by first | rfl | omega | (simp; done) | (simp; omega) | assumption)), trivial⟩
          · kernel_rfl
        · simp only; omega
    · skip
      have hjl : (Ps.getD a []).take y.1 = Ps.getD a [] := List.take_of_length_le (by omega)
      rw [hjl] at hya
      rw [hya] at hst2
      refine D_exit ?_
      refine id (hK8 _ ?_)
      clear hK8; try clear K8
      refine D_region ?_
      refine DL_c (op_mv _ (rfl : _ = AV.v (.int _ _))) ?_
      first
        | refine DL_c (op_add _ _ rfl rfl (i64w (by omega))) ?_
        | refine DL_c (op_add _ _ rfl rfl rfl) ?_
      refine DL_c (op_as _ (rfl : _ = AV.v (.int _ _))) ?_
      refine DL_nil ?_
      refine ⟨(z.1 + 1, y.2), ?_, ?_, ?_⟩
      · exact hst2
      · skip
        refine Le.mkJ [] [] rfl ?_ ?_ trivial trivial ?_
        · exact ⟨(iS rfl), (iS rfl), (lvI (by first | rfl | omega | (simp; done) | (simp; omega) | assumption)), (lvRr rfl (by first | rfl | omega | (simp; done) | (simp; omega) | assumption)), (lvRr rfl (by first | rfl | omega | (simp; done) | (simp; omega) | assumption)), trivial⟩
        · exact ⟨(obR rfl rfl rfl (by first | rfl | omega | (simp; done) | (simp; omega) | assumption)), (obR rfl rfl rfl (by first | rfl | omega | (simp; done) | (simp; omega) | assumption)), trivial⟩
        · kernel_rfl
      · simp only; omega
  · skip
    have hfin : (v : Int) :: z.2 = abv (Pst Ps st) [(v : Int)] := AB.fin (by have := hz; rw [show z.1 = ((v : Int) :: z.2).length by rw [List.length_cons]; omega] at this; exact this)
    rw [← hfin, List.tail_cons] at hfe
    have hse := congrArg List.length hfe
    rw [ssrt_len, List.length_map] at hse
    have hss := sorted_spec z.2.length z.2 rfl (by omega)
    rw [hfe] at hss
    refine D_exit ?_
    refine id (hK4 _ ?_)
    clear hK4; try clear K4
    refine D_seq fun K16 hK16 => ?_
    refine D_le (Le.frzS (ys := isl z.2) 7 rfl rfl rfl (by rw [List.drop_zero, Nat.mul_one]; exact List.take_of_length_le (by simp)) (by simp)) ?_
    refine D_region ?_
    refine DL_c (op_mv _ (rfl : _ = AV.sl _ _)) ?_
    refine DL_c (op_callH inferInstance (by repeat' (first | exact argsLv_nil | refine argsLv_cons ?_ ?_ | exact Lv.v | exact lvI (by omega) | exact Lv.sl | exact Lv.fp | exact Lv.nil | refine Lv.agg rfl ?_ | refine Lv.fn rfl ?_ rfl ?_ | exact lv_nil | refine lv_cons ?_ ?_ | exact Lv.z0)) (hss) rfl rfl) ?_
    first
      | refine DL_c (op_as _ (rfl : _ = AV.sl _ _)) ?_
      | refine DL_c (op_as _ (rfl : _ = AV.ref _ _ _)) ?_
      | refine DL_c (op_as _ (rfl : _ = AV.v (.slice _ _ _))) ?_
      | refine DL_c (op_as _ (rfl : _ = AV.z)) ?_
    refine DL_nil (hK16 _ ?_)
    clear hK16; try clear K16
    refine D_ret ?_
    rw [← hse]
    exact ret1 (.inr rfl) rfl (.tmp (rfl : _ = AV.sl _ _)) (Le.out [] [] .sl rfl rfl rfl trivial trivial)
open Classical in
theorem rminL_spec (n : Nat) (Ps : List (List Int)) (hG : GG n Ps) (st : List Int) (hst : st.length = n) (head : Int) :
    Spec Try.prog 68 (inSt [.sl n (nrows Ps), .v (.int .i64 head), .sl n (isl st)] []) (outSt (.sl (minL n (edg Ps n 0) st (wat n (ancW n (edg Ps n 0)) head)).length (blR (minL n (edg Ps n 0) st (wat n (ancW n (edg Ps n 0)) head)))) []) := by
  have hn := hG.n64
  have hPs := hG.len
  have hra := rancestors_spec n Ps hPs (by omega) hG.V (fun v => by have := hG.m v; omega) head
  have hre := rat_els hG.V (by omega) head
  rw [hre, List.length_map, hPs] at hra
  have hwl := wat_len (n := n) (ancW n (edg Ps n 0)) head
  have hwt := fun u => wat_lt (n := n) (E := edg Ps n 0) (v := head) (u := u)
  generalize hL : wat n (ancW n (edg Ps n 0)) head = L at hwl hwt hra ⊢
  refine Spec.ofN Try.func68 rfl Try.ntmps68 rfl ?_
  refine D_seq fun K1 hK1 => ?_
  refine D_region ?_
  first
    | refine DL_c (op_as _ (rfl : _ = AV.sl _ _)) ?_
    | refine DL_c (op_as _ (rfl : _ = AV.ref _ _ _)) ?_
    | refine DL_c (op_as _ (rfl : _ = AV.v (.slice _ _ _))) ?_
    | refine DL_c (op_as _ (rfl : _ = AV.z)) ?_
  refine DL_nil (hK1 _ ?_)
  clear hK1; try clear K1
  refine D_seq fun K2 hK2 => ?_
  refine D_region ?_
  refine DL_c (op_asN (7, 0) _ 77 2 rfl rfl) ?_
  refine DL_nil (hK2 _ ?_)
  clear hK2; try clear K2
  refine D_seq fun K3 hK3 => ?_
  refine D_region ?_
  refine DL_c (op_mv _ (rfl : _ = AV.sl _ _)) ?_
  refine DL_c (op_mv _ (rfl : _ = AV.v (.int _ _))) ?_
  refine DL_c (op_callH inferInstance (by repeat' (first | exact argsLv_nil | refine argsLv_cons ?_ ?_ | exact Lv.v | exact lvI (by omega) | exact Lv.sl | exact Lv.fp | exact Lv.nil | refine Lv.agg rfl ?_ | refine Lv.fn rfl ?_ rfl ?_ | exact lv_nil | refine lv_cons ?_ ?_ | exact Lv.z0)) (hra) rfl rfl) ?_
  refine DL_c (op_as _ (rfl : _ = AV.sl _ _)) ?_
  refine DL_nil (hK3 _ ?_)
  clear hK3; try clear K3
  refine D_seq fun K4 hK4 => ?_
  refine D_seq fun K5 hK5 => ?_
  refine D_region ?_
  refine DL_c (op_as _ (rfl : _ = AV.v (.int _ _))) ?_
  refine DL_nil (hK5 _ ?_)
  clear hK5; try clear K5
  refine D_block ?_
  refine D_loopL (α := Nat) (fun j => j ≤ L.length) 42 [(0, _), (2, _), (8, _)] [] (fun j => [(9, .v (.int .i64 (j : Int))), (7, .ref (7, 0) 0 (minL n (edg Ps n 0) st (L.take j)).length)]) (fun j => [((7, 0), .row 77 2 (blR (minL n (edg Ps n 0) st (L.take j))))]) [] [] (fun j => L.length - j) 0 ?_ (by
    refine Le.mkJ [] [] rfl ?_ ?_ trivial trivial ?_
    · exact ⟨(iS rfl), (iS rfl), (iS rfl), (lvI (by first | rfl | omega | (simp; done) | (simp; omega) | assumption)), (lvRr rfl (by first | rfl | omega | (simp; done) | (simp; omega) | assumption)), trivial⟩
    · exact ⟨(obR rfl rfl rfl (by first | rfl | omega | (simp; done) | (simp; omega) | assumption)), trivial⟩
    · kernel_rfl) ?_
  · first | omega | trivial | exact ⟨by omega, by omega⟩
  intro j hj
  have hml := minL_len n (edg Ps n 0) st (L.take j)
  rw [List.length_take] at hml
  have hlc : (L.map fun (x : Nat) => (x : Int)).length = L.length := List.length_map _
  refine D_seq fun K6 hK6 => ?_
  refine D_seq fun K7 hK7 => ?_
  refine D_region ?_
  refine DL_c (op_mv _ (rfl : _ = AV.v (.int _ _))) ?_
  refine DL_c (op_mv _ (rfl : _ = AV.sl _ _)) ?_
  refine DL_c (op_lenS _ inferInstance rfl) ?_
  first
    | refine DL_c (op_lss _ _ rfl rfl (by assumption)) ?_
    | refine DL_c (op_lss _ _ rfl rfl rfl) ?_
  refine DL_nil (hK7 _ ?_)
  clear hK7; try clear K7
  refine D_splitC rfl (fun hc16 => ?_) (fun hc16 => ?_)
  · skip
    obtain ⟨u, hu⟩ : ∃ u, u = L.getD j 0 := ⟨_, rfl⟩
    have hum : u ∈ L := hu ▸ getD_mem (by omega)
    have hun := hwt u hum
    have htk : L.take (j + 1) = L.take j ++ [u] := by rw [take1 0 (by omega), hu]
    have hcu : (L.map fun (x : Nat) => (x : Int)).getD j 0 = (u : Int) := by rw [cast_get, hu]
    have hri := rmin_iff (Ps := Ps) (by omega) (st := st) (by omega) (v := u) (by omega)
    rw [hPs] at hri
    refine D_skip (hK6 _ ?_)
    clear hK6; try clear K6
    refine D_seq fun K8 hK8 => ?_
    refine D_block ?_
    refine D_seq fun K9 hK9 => ?_
    refine D_region ?_
    refine DL_c (op_mv _ (rfl : _ = AV.sl _ _)) ?_
    refine DL_c (op_mv _ (rfl : _ = AV.sl _ _)) ?_
    refine DL_c (op_mv _ (rfl : _ = AV.sl _ _)) ?_
    refine DL_c (op_mv _ (rfl : _ = AV.v (.int _ _))) ?_
    first
      | refine DL_c (op_ixS _ _ inferInstance rfl rfl _ rfl (by omega) (by first | assumption | decide | (simp only [isl_len, bsl_len, psl_len, mrows_len, nsl_len, ws_len, List.length_map, ul_len, psl_len, isl_len, nrows_len, prL_len, blR_len, stK_len, inh1_len, st0_len]; omega) | (simp; done) | (simp; omega) | (simp [isl, bsl]; omega)) (by first | exact Nat.mul_one _ | rfl | omega)) ?_
      | refine DL_c (op_ixS _ _ inferInstance rfl rfl (Int.toNat _) (Int.toNat_of_nonneg (by omega)).symm (by omega) (by first | assumption | decide | (simp only [isl_len, bsl_len, psl_len, mrows_len, nsl_len, ws_len, List.length_map, ul_len, psl_len, isl_len, nrows_len, prL_len, blR_len, stK_len, inh1_len, st0_len]; omega) | (simp; done) | (simp; omega) | (simp [isl, bsl]; omega)) (by first | exact Nat.mul_one _ | rfl | omega)) ?_
    refine DL_c (op_ldF _ inferInstance rfl (by exact (isl_get _ _ (by omega)).trans (by rw [hcu])) rfl) ?_
    refine DL_c (op_callH inferInstance (by repeat' (first | exact argsLv_nil | refine argsLv_cons ?_ ?_ | exact Lv.v | exact lvI (by omega) | exact Lv.sl | exact Lv.fp | exact Lv.nil | refine Lv.agg rfl ?_ | refine Lv.fn rfl ?_ rfl ?_ | exact lv_nil | refine lv_cons ?_ ?_ | exact Lv.z0)) (rminimal_spec n Ps hG st hst u hun) rfl rfl) ?_
    refine DL_nil (hK9 _ ?_)
    clear hK9; try clear K9
    refine D_splitC rfl (fun hc25 => ?_) (fun hc25 => ?_)
    · skip
      have hmy := minL_yes (n := n) (E := edg Ps n 0) (st := st) (l := L.take j) (v := u) (hri.1 hc25)
      rw [← htk] at hmy
      refine D_le (σ' := mkStI 42 [(0, _), (2, _), (7, _), (8, _), (9, _)] [((7, 0), _)] [] []) (by
        refine Le.mkJ [] [] rfl ?_ ?_ trivial trivial ?_
        · exact ⟨(iS rfl), (iS rfl), (iR rfl), (iS rfl), (iV rfl), trivial⟩
        · exact ⟨(obE rfl rfl rfl), trivial⟩
        · kernel_rfl) ?_
      refine D_anyL 14 [26, 27, 28, 29, 30, 31, 32, 33, 34, 35, 36, 37, 38, 39] [] (by kernel_rfl) (by kernel_rfl) rfl (nodupO_iff rfl) (rfl : _ = [_, _, _, _, _, _, _, _, _, _, _, _, _, _]) (rfl : _ = [_, _]) ?_
      refine any_c (_, []) (fun τ => op_mv _ (rfl : _ = AV.ref _ _ _)) ?_
      refine any_n (rfl : _ = [_]) ?_
      refine any_c (_, []) (fun τ => op_mv _ (rfl : _ = AV.sl _ _)) ?_
      refine any_n (rfl : _ = [_, _]) ?_
      refine any_c (_, []) (fun τ => op_mv _ (rfl : _ = AV.v (.int _ _))) ?_
      refine any_n (rfl : _ = [_, _, _]) ?_
      first
        | refine any_c (_, []) (fun τ => op_ixS _ _ inferInstance rfl rfl _ rfl (by omega) (by first | assumption | decide | (simp only [isl_len, bsl_len, psl_len, mrows_len, nsl_len, ws_len, List.length_map, ul_len, psl_len, isl_len, nrows_len, prL_len, blR_len, stK_len, inh1_len, st0_len]; omega) | (simp; done) | (simp; omega) | (simp [isl, bsl]; omega)) (by first | exact Nat.mul_one _ | rfl | omega)) ?_
        | refine any_c (_, []) (fun τ => op_ixS _ _ inferInstance rfl rfl (Int.toNat _) (Int.toNat_of_nonneg (by omega)).symm (by omega) (by first | assumption | decide | (simp only [isl_len, bsl_len, psl_len, mrows_len, nsl_len, ws_len, List.length_map, ul_len, psl_len, isl_len, nrows_len, prL_len, blR_len, stK_len, inh1_len, st0_len]; omega) | (simp; done) | (simp; omega) | (simp [isl, bsl]; omega)) (by first | exact Nat.mul_one _ | rfl | omega)) ?_
      refine any_n (rfl : _ = [_, _, _, _]) ?_
      refine any_c (_, []) (fun τ => op_ldF _ inferInstance rfl (by exact (isl_get _ _ (by omega)).trans (by rw [hcu])) rfl) ?_
      refine any_n (rfl : _ = [_, _, _, _, _]) ?_
      refine any_c (_, []) (fun τ => op_mv _ (rfl : _ = AV.sl _ _)) ?_
      refine any_n (rfl : _ = [_, _, _, _, _, _]) ?_
      refine any_c (_, []) (fun τ => op_mv _ (rfl : _ = AV.sl _ _)) ?_
      refine any_n (rfl : _ = [_, _, _, _, _, _, _]) ?_
      refine any_c (_, []) (fun τ => op_mv _ (rfl : _ = AV.sl _ _)) ?_
      refine any_n (rfl : _ = [_, _, _, _, _, _, _, _]) ?_
      refine any_c (_, []) (fun τ => op_mv _ (rfl : _ = AV.v (.int _ _))) ?_
      refine any_n (rfl : _ = [_, _, _, _, _, _, _, _, _]) ?_
      first
        | refine any_c (_, []) (fun τ => op_ixS _ _ inferInstance rfl rfl _ rfl (by omega) (by first | assumption | decide | (simp only [isl_len, bsl_len, psl_len, mrows_len, nsl_len, ws_len, List.length_map, ul_len, psl_len, isl_len, nrows_len, prL_len, blR_len, stK_len, inh1_len, st0_len]; omega) | (simp; done) | (simp; omega) | (simp [isl, bsl]; omega)) (by first | exact Nat.mul_one _ | rfl | omega)) ?_
        | refine any_c (_, []) (fun τ => op_ixS _ _ inferInstance rfl rfl (Int.toNat _) (Int.toNat_of_nonneg (by omega)).symm (by omega) (by first | assumption | decide | (simp only [isl_len, bsl_len, psl_len, mrows_len, nsl_len, ws_len, List.length_map, ul_len, psl_len, isl_len, nrows_len, prL_len, blR_len, stK_len, inh1_len, st0_len]; omega) | (simp; done) | (simp; omega) | (simp [isl, bsl]; omega)) (by first | exact Nat.mul_one _ | rfl | omega)) ?_
      refine any_n (rfl : _ = [_, _, _, _, _, _, _, _, _, _]) ?_
      refine any_c (_, []) (fun τ => op_ldF _ inferInstance rfl (by exact (isl_get _ _ (by omega)).trans (by rw [hcu])) rfl) ?_
      refine any_n (rfl : _ = [_, _, _, _, _, _, _, _, _, _, _]) ?_
      refine any_c (_, []) (fun τ => (op_callH inferInstance (by repeat' (first | exact argsLv_nil | refine argsLv_cons ?_ ?_ | exact Lv.v | exact lvI (by omega) | exact Lv.sl | exact Lv.fp | exact Lv.nil | refine Lv.agg rfl ?_ | refine Lv.fn rfl ?_ rfl ?_ | exact lv_nil | refine lv_cons ?_ ?_ | exact Lv.z0)) (rsuspects_spec n Ps hG st hst u hun) rfl rfl)) ?_
      refine any_n (rfl : _ = [_, _, _, _, _, _, _, _, _, _, _, _]) ?_
      refine any_c (_, []) (fun τ => op_build (ys := [.v (.int .i64 (u : Int)), .sl (els (susW n (edg Ps n 0) (whr st 2).testBit u)).length (nsl (els (susW n (edg Ps n 0) (whr st 2).testBit u)))]) _ inferInstance rfl rfl) ?_
      refine any_n (rfl : _ = [_, _, _, _, _, _, _, _, _, _, _, _, _]) ?_
      refine any_c (_, []) (fun τ => op_bsF _ _ inferInstance rfl (by rfl) (by simp <;> rfl) (by decide) rfl) ?_
      refine any_n (rfl : _ = [_, _, _, _, _, _, _, _, _, _, _, _, _, _]) ?_
      refine any_end ⟨rfl, ?_⟩
      refine DL_c (op_ap (40, 0) _ _ inferInstance rfl rfl (by first | rfl | omega | (simp only [isl_len, bsl_len, psl_len, mrows_len, nsl_len, ws_len, List.length_map, ul_len, psl_len, isl_len, nrows_len, prL_len, blR_len, stK_len, inh1_len, st0_len]; omega) | (simp; done) | (simp; omega)) (by first | exact .nil | (refine .sl ?_; first | (simp [isl]; done) | (simp [isl]; omega)) | (refine .ref rfl rfl ?_; first | (simp; done) | (simp; omega))) (by omega) rfl (rfl) (rfl)) ?_
      refine DL_c (op_as _ (rfl : _ = AV.ref _ _ _)) ?_
      refine DL_nil (hK8 _ ?_)
      clear hK8; try clear K8
      refine D_le (σ' := mkStI 42 [(0, _), (2, _), (7, _), (8, _), (9, _)] [((40, 0), _)] [] []) (by
        refine Le.mkJ [] [] rfl ?_ ?_ trivial trivial ?_
        · exact ⟨(iS rfl), (iS rfl), (iR rfl), (iS rfl), (iV rfl), trivial⟩
        · exact ⟨(obE rfl rfl rfl), trivial⟩
        · kernel_rfl) ?_
      refine D_region ?_
      refine DL_c (op_mv _ (rfl : _ = AV.v (.int _ _))) ?_
      first
        | refine DL_c (op_add _ _ rfl rfl (i64w (by omega))) ?_
        | refine DL_c (op_add _ _ rfl rfl rfl) ?_
      refine DL_c (op_as _ (rfl : _ = AV.v (.int _ _))) ?_
      refine DL_nil ?_
      refine ⟨j + 1, ?_, ?_, ?_⟩
      · first | omega | trivial | exact ⟨by omega, by omega⟩
      · skip
        refine Le.mkJ [((7, 0), (40, 0))] [] rfl ?_ ?_ trivial trivial ?_
        · exact ⟨(by repeat' (first | exact Lv.v | exact Lv.sl | exact Lv.fp | exact lvRr (id := (7, 0)) rfl rfl | exact lvPr (id := (7, 0)) rfl | exact lvRr rfl rfl | exact lvPr rfl | exact Lv.mp | exact Lv.nil | exact Lv.z | exact Lv.dead | refine Lv.agg rfl ?_ | refine Lv.fn rfl ?_ rfl ?_ | refine Lv.tup rfl ?_ | refine Lv.ifc ?_ | exact lv_nil | refine lv_cons ?_ ?_)), (by repeat' (first | exact Lv.v | exact Lv.sl | exact Lv.fp | exact lvRr (id := (7, 0)) rfl rfl | exact lvPr (id := (7, 0)) rfl | exact lvRr rfl rfl | exact lvPr rfl | exact Lv.mp | exact Lv.nil | exact Lv.z | exact Lv.dead | refine Lv.agg rfl ?_ | refine Lv.fn rfl ?_ rfl ?_ | refine Lv.tup rfl ?_ | refine Lv.ifc ?_ | exact lv_nil | refine lv_cons ?_ ?_)), (by repeat' (first | exact Lv.v | exact Lv.sl | exact Lv.fp | exact lvRr (id := (7, 0)) rfl rfl | exact lvPr (id := (7, 0)) rfl | exact lvRr rfl rfl | exact lvPr rfl | exact Lv.mp | exact Lv.nil | exact Lv.z | exact Lv.dead | refine Lv.agg rfl ?_ | refine Lv.fn rfl ?_ rfl ?_ | refine Lv.tup rfl ?_ | refine Lv.ifc ?_ | exact lv_nil | refine lv_cons ?_ ?_)), (lvI (by first | rfl | omega | (first | (rw [hmy, List.length_append]; rfl) | (rw [hmy, ← blR_app])) | (simp; done) | (simp; omega) | assumption)), (lvRr rfl (by first | rfl | omega | (first | (rw [hmy, List.length_append]; rfl) | (rw [hmy, ← blR_app])) | (simp; done) | (simp; omega) | assumption)), trivial⟩
        · exact ⟨(obR rfl rfl rfl (by first | rfl | omega | (first | (rw [hmy, List.length_append]; rfl) | (rw [hmy, ← blR_app])) | (simp; done) | (simp; omega) | assumption)), trivial⟩
        · kernel_rfl
      · omega
    · skip
      have hmn := minL_no (n := n) (E := edg Ps n 0) (st := st) (l := L.take j) (v := u) (fun h => hc25 (hri.2 h))
      rw [← htk] at hmn
      refine D_skip (hK8 _ ?_)
      clear hK8; try clear K8
      refine D_region ?_
      refine DL_c (op_mv _ (rfl : _ = AV.v (.int _ _))) ?_
      first
        | refine DL_c (op_add _ _ rfl rfl (i64w (by omega))) ?_
        | refine DL_c (op_add _ _ rfl rfl rfl) ?_
      refine DL_c (op_as _ (rfl : _ = AV.v (.int _ _))) ?_
      refine DL_nil ?_
      refine ⟨j + 1, ?_, ?_, ?_⟩
      · first | omega | trivial | exact ⟨by omega, by omega⟩
      · skip
        refine Le.mkJ [] [] rfl ?_ ?_ trivial trivial ?_
        · exact ⟨(iS rfl), (iS rfl), (iS rfl), (lvI (by first | rfl | omega | (rw [hmn]) | (simp; done) | (simp; omega) | assumption)), (lvRr rfl (by first | rfl | omega | (rw [hmn]) | (simp; done) | (simp; omega) | assumption)), trivial⟩
        · exact ⟨(obR rfl rfl rfl (by first | rfl | omega | (rw [hmn]) | (simp; done) | (simp; omega) | assumption)), trivial⟩
        · kernel_rfl
      · omega
  · skip
    have htl : L.take j = L := List.take_of_length_le (by omega)
    refine D_exit ?_
    refine id (hK4 _ ?_)
    clear hK4; try clear K4
    refine D_seq fun K10 hK10 => ?_
    refine D_region ?_
    refine DL_c (op_mv _ (rfl : _ = AV.ref _ _ _)) ?_
    refine DL_c (op_as _ (rfl : _ = AV.ref _ _ _)) ?_
    refine DL_nil (hK10 _ ?_)
    clear hK10; try clear K10
    refine D_ret ?_
    rw [show minL n (edg Ps n 0) st L = minL n (edg Ps n 0) st (L.take j) from by rw [htl]]
    exact ret1 (.inr rfl) rfl (.tmp (rfl : _ = AV.ref _ _ _)) (Le.out [] [(7, 0)] (frz0 rfl rfl (by rw [blR_len]) rfl) rfl rfl rfl ⟨rfl, trivial⟩ trivial)
end Go.Proofs.Ytkbkmngbenohkaa
