/- versions.Minimal, Inherited by the machine. -/
import Derived.Test.YtkbkmngbenohkaaVoW5
set_option linter.unusedSimpArgs false
set_option linter.unusedVariables false
namespace Go.Proofs.Ytkbkmngbenohkaa
open Go.RowKit

theorem suspects_spec (n : Nat) (E : Prs) (P A : List Nat) (hP : PW n E P) (v : Nat) (hv : v < n) (t : Nat) (ht : t < 18446744073709551616) :
    Spec Try.prog 101 (inSt [.fp 0 (gra n P A), .v (.int .i64 (v : Int)), .v (.int .u64 (t : Int))] []) (outSt (.v (.int .u64 ((susW n E t.testBit v : Nat) : Int))) []) := by
  have hn := hP.n64
  have hPl := hP.len
  refine Spec.ofN Try.func101 rfl Try.ntmps101 rfl ?_
  refine D_seq fun K1 hK1 => ?_
  refine D_region ?_
  refine DL_c (op_as _ (rfl : _ = AV.v (.int _ _))) ?_
  refine DL_nil (hK1 _ ?_)
  clear hK1; try clear K1
  refine D_seq fun K2 hK2 => ?_
  refine D_region ?_
  refine DL_c (op_mv _ (rfl : _ = AV.fp _ _)) ?_
  refine DL_c (op_nilc _ rfl) ?_
  first
    | refine DL_c (op_fldP _ inferInstance rfl rfl rfl) ?_
    | refine DL_c (op_fldF _ inferInstance rfl rfl) ?_
  refine DL_c (op_ldF _ inferInstance rfl (rfl : _ = some (PV.sl n (ul P))) rfl) ?_
  refine DL_c (op_mv _ (rfl : _ = AV.v (.int _ _))) ?_
  first
    | refine DL_c (op_ixS _ _ inferInstance rfl rfl _ rfl (by omega) (by first | assumption | decide | (simp only [isl_len, bsl_len, psl_len, mrows_len, nsl_len, ws_len, List.length_map, ul_len, psl_len, isl_len, nrows_len, prL_len]; omega) | (simp; done) | (simp; omega) | (simp [isl, bsl]; omega)) (by first | exact Nat.mul_one _ | rfl | omega)) ?_
    | refine DL_c (op_ixS _ _ inferInstance rfl rfl (Int.toNat _) (Int.toNat_of_nonneg (by omega)).symm (by omega) (by first | assumption | decide | (simp only [isl_len, bsl_len, psl_len, mrows_len, nsl_len, ws_len, List.length_map, ul_len, psl_len, isl_len, nrows_len, prL_len]; omega) | (simp; done) | (simp; omega) | (simp [isl, bsl]; omega)) (by first | exact Nat.mul_one _ | rfl | omega)) ?_
    | refine DL_c (op_ixR _ _ inferInstance rfl rfl rfl _ rfl (by omega) (by first | exact (Nat.zero_add _).trans (Nat.mul_one _) | exact Nat.zero_add _ | rfl | omega)) ?_
    | refine DL_c (op_ixR _ _ inferInstance rfl rfl rfl (Int.toNat _) (Int.toNat_of_nonneg (by omega)).symm (by omega) (by first | exact (Nat.zero_add _).trans (Nat.mul_one _) | exact Nat.zero_add _ | rfl | omega)) ?_
    | refine DL_c (op_ixB _ _ inferInstance rfl rfl rfl _ rfl (by omega) (by first | exact (Nat.zero_add _).trans (Nat.mul_one _) | exact Nat.zero_add _ | rfl | omega)) ?_
    | refine DL_c (op_ixB _ _ inferInstance rfl rfl rfl (Int.toNat _) (Int.toNat_of_nonneg (by omega)).symm (by omega) (by first | exact (Nat.zero_add _).trans (Nat.mul_one _) | exact Nat.zero_add _ | rfl | omega)) ?_
  first
    | refine DL_c (op_ldB _ inferInstance rfl rfl (rfl : _ = some (AV.v (.int _ _)))) ?_
    | refine DL_c (op_ldR _ inferInstance rfl rfl (by first | rfl | exact isl_get _ _ (by omega) | exact bsl_get _ _ (by omega) | assumption | exact isl_get _ _ (by omega) | exact nsl_get _ _ (by omega) | exact ul_get _ _ (by omega) | exact nrows_get _ _ (by omega)) rfl) ?_
    | refine DL_c (op_ldF _ inferInstance rfl (by first | rfl | exact isl_get _ _ (by omega) | exact bsl_get _ _ (by omega) | assumption | exact isl_get _ _ (by omega) | exact nsl_get _ _ (by omega) | exact ul_get _ _ (by omega) | exact nrows_get _ _ (by omega)) rfl) ?_
  refine DL_c (op_mv _ (rfl : _ = AV.v (.int _ _))) ?_
  refine DL_c (op_and _ _ rfl rfl (u64_and _ _ (hP.lt v) ht)) ?_
  refine DL_c (op_as _ (rfl : _ = AV.v (.int _ _))) ?_
  refine DL_nil (hK2 _ ?_)
  clear hK2; try clear K2
  refine D_block ?_
  refine D_loopL (α := Nat) (fun w => SI n E t v P w) 45 [(0, _), (2, _)] [] (fun w => [(7, .v (.int .u64 (w : Int)))]) (fun w => []) [] [] (fun w => 64 - popc w) (P.getD v 0 &&& t) ?_ (by
    refine Le.mkJ [] [] rfl ?_ ?_ trivial trivial ?_
    · exact ⟨(iF rfl), (iV rfl), (lvI (by first | rfl | omega | (simp; done) | (simp; omega) | assumption)), trivial⟩
    · exact trivial
    · kernel_rfl) ?_
  · exact SI.start hP hv ht
  intro w hw
  have hwl := hw.lt
  have hel := els_len w
  refine D_block ?_
  refine D_seq fun K3 hK3 => ?_
  refine D_region ?_
  refine DL_c (op_mv _ (rfl : _ = AV.v (.int _ _))) ?_
  refine DL_c (op_as _ (rfl : _ = AV.v (.int _ _))) ?_
  refine DL_nil (hK3 _ ?_)
  clear hK3; try clear K3
  refine D_seq fun K4 hK4 => ?_
  refine D_seq fun K5 hK5 => ?_
  refine D_region ?_
  refine DL_c (op_mv _ (rfl : _ = AV.v (.int _ _))) ?_
  refine DL_c (op_callH inferInstance (by repeat' (first | exact argsLv_nil | refine argsLv_cons ?_ ?_ | exact Lv.v | exact lvI (by omega) | exact Lv.sl | exact Lv.fp | exact Lv.nil | refine Lv.agg rfl ?_ | refine Lv.fn rfl ?_ rfl ?_ | exact lv_nil | refine lv_cons ?_ ?_ | exact Lv.z0)) (list_spec w hwl) rfl rfl) ?_
  refine DL_c (op_lenS _ inferInstance rfl) ?_
  refine DL_c (op_mv _ (rfl : _ = AV.v (.int _ _))) ?_
  refine DL_nil (hK5 _ ?_)
  clear hK5; try clear K5
  refine D_block ?_
  refine D_loopL (α := Nat) (fun j => j ≤ (els w).length) 45 [(0, _), (2, _), (7, _), (22, _), (23, _)] [] (fun j => [(24, .v (.int .i64 (j : Int))), (8, .v (.int .u64 ((susF P t w (els w) j : Nat) : Int)))]) (fun j => []) [] [] (fun j => (els w).length - j) 0 ?_ (by
    refine Le.mkJ [] [] rfl ?_ ?_ trivial trivial ?_
    · exact ⟨(iF rfl), (iV rfl), (iV rfl), (iS rfl), (iV rfl), (lvI (by first | rfl | omega | (rw [hss]) | (simp; done) | (simp; omega) | assumption)), (lvI (by rw [susF_zero])), trivial⟩
    · exact trivial
    · kernel_rfl) ?_
  · first | omega | trivial | exact ⟨by omega, by omega⟩
  intro j hj
  refine D_seq fun K6 hK6 => ?_
  refine D_region ?_
  first
    | refine DL_c (op_lss _ _ rfl rfl (by assumption)) ?_
    | refine DL_c (op_lss _ _ rfl rfl rfl) ?_
  refine DL_nil (hK6 _ ?_)
  clear hK6; try clear K6
  refine D_seq fun K7 hK7 => ?_
  refine D_splitC rfl (fun hc25 => ?_) (fun hc25 => ?_)
  · skip
    obtain ⟨u, hu⟩ : ∃ u, u = (els w).getD j 0 := ⟨_, rfl⟩
    have hum : u ∈ els w := hu ▸ getD_mem (by omega)
    have hun := hw.bit_lt hP (els_mem.1 hum).2
    have hsl := susF_lt (P := P) ht hwl (els w) j
    have hss := susF_succ (P := P) (t := t) (w := w) (l := els w) (j := j) (by omega)
    rw [← hu] at hss
    refine D_skip (hK7 _ ?_)
    clear hK7; try clear K7
    refine D_seq fun K8 hK8 => ?_
    refine D_block ?_
    refine D_seq fun K9 hK9 => ?_
    refine D_region ?_
    first
      | refine DL_c (op_ixS _ _ inferInstance rfl rfl _ rfl (by omega) (by first | assumption | decide | (simp only [isl_len, bsl_len, psl_len, mrows_len, nsl_len, ws_len, List.length_map, ul_len, psl_len, isl_len, nrows_len, prL_len]; omega) | (simp; done) | (simp; omega) | (simp [isl, bsl]; omega)) (by first | exact Nat.mul_one _ | rfl | omega)) ?_
      | refine DL_c (op_ixS _ _ inferInstance rfl rfl (Int.toNat _) (Int.toNat_of_nonneg (by omega)).symm (by omega) (by first | assumption | decide | (simp only [isl_len, bsl_len, psl_len, mrows_len, nsl_len, ws_len, List.length_map, ul_len, psl_len, isl_len, nrows_len, prL_len]; omega) | (simp; done) | (simp; omega) | (simp [isl, bsl]; omega)) (by first | exact Nat.mul_one _ | rfl | omega)) ?_
    refine DL_c (op_ldF _ inferInstance rfl (by exact (nsl_get _ _ (by omega)).trans (by rw [← hu])) rfl) ?_
    refine DL_c (op_as _ (rfl : _ = AV.v (.int _ _))) ?_
    refine DL_nil (hK9 _ ?_)
    clear hK9; try clear K9
    refine D_region ?_
    refine DL_c (op_mv _ (rfl : _ = AV.v (.int _ _))) ?_
    refine DL_c (op_mv _ (rfl : _ = AV.fp _ _)) ?_
    refine DL_c (op_nilc _ rfl) ?_
    first
      | refine DL_c (op_fldP _ inferInstance rfl rfl rfl) ?_
      | refine DL_c (op_fldF _ inferInstance rfl rfl) ?_
    refine DL_c (op_ldF _ inferInstance rfl (rfl : _ = some (PV.sl n (ul P))) rfl) ?_
    refine DL_c (op_mv _ (rfl : _ = AV.v (.int _ _))) ?_
    refine DL_c (op_ixS _ _ inferInstance rfl rfl u rfl (by omega) (by simp; omega) (Nat.mul_one _)) ?_
    first
      | refine DL_c (op_ldB _ inferInstance rfl rfl (rfl : _ = some (AV.v (.int _ _)))) ?_
      | refine DL_c (op_ldR _ inferInstance rfl rfl (by first | rfl | exact isl_get _ _ (by omega) | exact bsl_get _ _ (by omega) | assumption | exact isl_get _ _ (by omega) | exact nsl_get _ _ (by omega) | exact ul_get _ _ (by omega) | exact nrows_get _ _ (by omega)) rfl) ?_
      | refine DL_c (op_ldF _ inferInstance rfl (by first | rfl | exact isl_get _ _ (by omega) | exact bsl_get _ _ (by omega) | assumption | exact isl_get _ _ (by omega) | exact nsl_get _ _ (by omega) | exact ul_get _ _ (by omega) | exact nrows_get _ _ (by omega)) rfl) ?_
    refine DL_c (op_mv _ (rfl : _ = AV.v (.int _ _))) ?_
    refine DL_c (op_and _ _ rfl rfl (u64_and _ _ (hP.lt u) ht)) ?_
    refine DL_c (op_or _ _ rfl rfl (u64_or _ _ hsl (and_bound ht))) ?_
    refine DL_c (op_as _ (rfl : _ = AV.v (.int _ _))) ?_
    refine DL_nil (hK8 _ ?_)
    clear hK8; try clear K8
    refine D_le (σ' := mkStI 45 [(0, _), (2, _), (7, _), (8, _), (22, _), (23, _), (24, _)] [] [] []) (by
      refine Le.mkJ [] [] rfl ?_ ?_ trivial trivial ?_
      · exact ⟨(iF rfl), (iV rfl), (iV rfl), (iV rfl), (iS rfl), (iV rfl), (iV rfl), trivial⟩
      · exact trivial
      · kernel_rfl) ?_
    refine D_region ?_
    first
      | refine DL_c (op_add _ _ rfl rfl (i64w (by omega))) ?_
      | refine DL_c (op_add _ _ rfl rfl rfl) ?_
    refine DL_c (op_mv _ (rfl : _ = AV.v (.int _ _))) ?_
    refine DL_nil ?_
    refine ⟨j + 1, ?_, ?_, ?_⟩
    · first | omega | trivial | exact ⟨by omega, by omega⟩
    · skip
      refine Le.mkJ [] [] rfl ?_ ?_ trivial trivial ?_
      · exact ⟨(iF rfl), (iV rfl), (iV rfl), (iS rfl), (iV rfl), (lvI (by first | rfl | omega | (rw [hss]) | (simp; done) | (simp; omega) | assumption)), (lvI (by first | rfl | omega | (rw [hss]) | (simp; done) | (simp; omega) | assumption)), trivial⟩
      · exact trivial
      · kernel_rfl
    · omega
  · skip
    obtain rfl : j = (els w).length := by omega
    have hnx := hw.next hP ht
    refine D_exit ?_
    refine id (hK4 _ ?_)
    clear hK4; try clear K4
    refine D_seq fun K10 hK10 => ?_
    refine D_seq fun K11 hK11 => ?_
    refine D_region ?_
    refine DL_c (op_mv _ (rfl : _ = AV.v (.int _ _))) ?_
    refine DL_c (op_mv _ (rfl : _ = AV.v (.int _ _))) ?_
    first
      | refine DL_c (op_eql _ _ rfl rfl (by assumption)) ?_
      | refine DL_c (op_eql _ _ rfl rfl rfl) ?_
    refine DL_nil (hK11 _ ?_)
    clear hK11; try clear K11
    refine D_splitC rfl (fun hc42 => ?_) (fun hc42 => ?_)
    · skip
      have hfin := hw.fin hP hv (by omega)
      refine D_seq fun K12 hK12 => ?_
      refine D_region ?_
      refine DL_c (op_mv _ (rfl : _ = AV.v (.int _ _))) ?_
      refine DL_c (op_as _ (rfl : _ = AV.v (.int _ _))) ?_
      refine DL_nil (hK12 _ ?_)
      clear hK12; try clear K12
      refine D_ret ?_
      refine ret1 (.inr rfl) rfl (.tmp (rfl : _ = AV.v (.int _ _))) (Le.out [] [] (lvI ?_) rfl rfl rfl trivial trivial)
      rw [← hfin]
    · skip
      refine D_skip (hK10 _ ?_)
      clear hK10; try clear K10
      refine D_region ?_
      refine DL_c (op_mv _ (rfl : _ = AV.v (.int _ _))) ?_
      refine DL_c (op_as _ (rfl : _ = AV.v (.int _ _))) ?_
      refine DL_nil ?_
      refine ⟨susF P t w (els w) (els w).length, ?_, ?_, ?_⟩
      · exact hnx
      · skip
        refine Le.mkJ [] [] rfl ?_ ?_ trivial trivial ?_
        · exact ⟨(iF rfl), (iV rfl), (lvI (by first | rfl | omega | (simp; done) | (simp; omega) | assumption)), trivial⟩
        · exact trivial
        · kernel_rfl
      · have h1 := popc_lt (w := w) (w' := susF P t w (els w) (els w).length) (fun c hc => by rw [susF_bit _ _ _ _ _ _ (Nat.le_refl _), hc]; rfl) hwl hnx.lt (by omega); have h2 := popc_le (susF P t w (els w) (els w).length); omega
/-- A row of blames. -/
def blR (L : List (Nat × List Nat)) : List PV := L.flatMap fun b => [.v (.int .i64 (b.1 : Int)), .sl b.2.length (nsl b.2)]
@[simp] theorem blR_len (L : List (Nat × List Nat)) : (blR L).length = L.length * 2 := by
  induction L with
  | nil => rfl
  | cons b L ih => simp only [blR, List.flatMap_cons, List.length_append, List.length_cons, List.length_nil] at ih ⊢; omega
theorem blR_app (L : List (Nat × List Nat)) (v : Nat) (s : List Nat) : blR L ++ [.v (.int .i64 (v : Int)), .sl s.length (nsl s)] = blR (L ++ [(v, s)]) := by simp [blR]
theorem minL_yes {n : Nat} {E : Prs} {st : List Int} {l : List Nat} {v : Nat} (h : (aw1 n E v &&& whr st 1) = 2 ^ v) : minL n E st (l ++ [v]) = minL n E st l ++ [(v, els (susW n E (whr st 2).testBit v))] := by
  simp [minL, List.filter_append, h]
theorem minL_no {n : Nat} {E : Prs} {st : List Int} {l : List Nat} {v : Nat} (h : (aw1 n E v &&& whr st 1) ≠ 2 ^ v) : minL n E st (l ++ [v]) = minL n E st l := by
  simp [minL, List.filter_append, h]
theorem minL_len (n : Nat) (E : Prs) (st : List Int) (l : List Nat) : (minL n E st l).length ≤ l.length := by
  unfold minL; rw [List.length_map]; exact List.length_filter_le _ _
theorem wat_lt {n : Nat} {E : Prs} {v : Int} {u : Nat} (h : u ∈ wat n (ancW n E) v) : u < n := by
  unfold wat at h
  split at h
  · rename_i hv
    rw [ancW_get (by omega)] at h
    have := (els_mem.1 h).2
    rw [aw1, cw_bit, Bool.and_eq_true, decide_eq_true_eq] at this
    exact this.1
  · cases h
theorem wat_len {n : Nat} (P : List Nat) (v : Int) : (wat n P v).length ≤ 64 := by
  unfold wat; split
  · exact els_len _
  · exact Nat.zero_le _
theorem whr_lt {st : List Int} (h : st.length ≤ 64) (x : Int) : whr st x < 18446744073709551616 := cw_lt _ _ h
theorem minimal_spec (n : Nat) (E : Prs) (P : List Nat) (hP : PW n E P) (st : List Int) (hst : st.length = n) (head : Int) :
    Spec Try.prog 59 (inSt [.fp 0 (gra n P (ancW n E)), .v (.int .i64 head), .sl n (isl st)] []) (outSt (.sl (minL n E st (wat n (ancW n E) head)).length (blR (minL n E st (wat n (ancW n E) head)))) []) := by
  have hn := hP.n64
  have hb1 := whr_lt (st := st) (by omega) 1
  have hb2 := whr_lt (st := st) (by omega) 2
  have hal := ancW_len n E
  have hat := ancW_lt hn E
  have hwl := wat_len (n := n) (ancW n E) head
  have hwt := fun u => wat_lt (n := n) (E := E) (v := head) (u := u)
  generalize hL : wat n (ancW n E) head = L at hwl hwt ⊢
  refine Spec.ofN Try.func59 rfl Try.ntmps59 rfl ?_
  refine D_seq fun K1 hK1 => ?_
  refine D_region ?_
  first
    | refine DL_c (op_as _ (rfl : _ = AV.sl _ _)) ?_
    | refine DL_c (op_as _ (rfl : _ = AV.ref _ _ _)) ?_
    | refine DL_c (op_as _ (rfl : _ = AV.v (.slice _ _ _))) ?_
    | refine DL_c (op_as _ (rfl : _ = AV.z)) ?_
  refine DL_nil (hK1 _ ?_)
  clear hK1; try clear K1
  refine D_seq fun K2 hK2 => ?_
  refine D_region ?_
  refine DL_c (op_mv _ (rfl : _ = AV.sl _ _)) ?_
  refine DL_c (op_callH inferInstance (by repeat' (first | exact argsLv_nil | refine argsLv_cons ?_ ?_ | exact Lv.v | exact lvI (by omega) | exact Lv.sl | exact Lv.fp | exact Lv.nil | refine Lv.agg rfl ?_ | refine Lv.fn rfl ?_ rfl ?_ | exact lv_nil | refine lv_cons ?_ ?_ | exact Lv.z0)) (where_spec n st hst hn 1) rfl rfl) ?_
  refine DL_c (op_mv _ (rfl : _ = AV.sl _ _)) ?_
  refine DL_c (op_callH inferInstance (by repeat' (first | exact argsLv_nil | refine argsLv_cons ?_ ?_ | exact Lv.v | exact lvI (by omega) | exact Lv.sl | exact Lv.fp | exact Lv.nil | refine Lv.agg rfl ?_ | refine Lv.fn rfl ?_ rfl ?_ | exact lv_nil | refine lv_cons ?_ ?_ | exact Lv.z0)) (where_spec n st hst hn 2) rfl rfl) ?_
  refine DL_c (op_as _ (rfl : _ = AV.v (.int _ _))) ?_
  refine DL_c (op_as _ (rfl : _ = AV.v (.int _ _))) ?_
  refine DL_nil (hK2 _ ?_)
  clear hK2; try clear K2
  refine D_seq fun K3 hK3 => ?_
  refine D_region ?_
  refine DL_c (op_asN (9, 0) _ 75 2 rfl rfl) ?_
  refine DL_nil (hK3 _ ?_)
  clear hK3; try clear K3
  refine D_seq fun K4 hK4 => ?_
  refine D_seq fun K5 hK5 => ?_
  refine D_region ?_
  refine DL_c (op_mv _ (rfl : _ = AV.fp _ _)) ?_
  refine DL_c (op_mv _ (rfl : _ = AV.v (.int _ _))) ?_
  refine DL_c (op_callH inferInstance (by repeat' (first | exact argsLv_nil | refine argsLv_cons ?_ ?_ | exact Lv.v | exact lvI (by omega) | exact Lv.sl | exact Lv.fp | exact Lv.nil | refine Lv.agg rfl ?_ | refine Lv.fn rfl ?_ rfl ?_ | exact lv_nil | refine lv_cons ?_ ?_ | exact Lv.z0)) (hL ▸ ancestors_spec n P (ancW n E) hal hn hat head) rfl rfl) ?_
  refine DL_c (op_lenS _ inferInstance rfl) ?_
  refine DL_c (op_mv _ (rfl : _ = AV.v (.int _ _))) ?_
  refine DL_nil (hK5 _ ?_)
  clear hK5; try clear K5
  refine D_block ?_
  refine D_loopL (α := Nat) (fun j => j ≤ L.length) 48 [(0, _), (7, _), (8, _), (18, _), (19, _)] [] (fun j => [(20, .v (.int .i64 (j : Int))), (9, .ref (9, 0) 0 (minL n E st (L.take j)).length)]) (fun j => [((9, 0), .row 75 2 (blR (minL n E st (L.take j))))]) [] [] (fun j => L.length - j) 0 ?_ (by
    refine Le.mkJ [] [] rfl ?_ ?_ trivial trivial ?_
    · exact ⟨(iF rfl), (iV rfl), (iV rfl), (iS rfl), (iV rfl), (lvI (by first | rfl | omega | (simp; done) | (simp; omega) | assumption)), (lvRr rfl (by first | rfl | omega | (simp; done) | (simp; omega) | assumption)), trivial⟩
    · exact ⟨(obR rfl rfl rfl (by first | rfl | omega | (simp; done) | (simp; omega) | assumption)), trivial⟩
    · kernel_rfl) ?_
  · first | omega | trivial | exact ⟨by omega, by omega⟩
  intro j hj
  have hml := minL_len n E st (L.take j)
  rw [List.length_take] at hml
  refine D_seq fun K6 hK6 => ?_
  refine D_region ?_
  first
    | refine DL_c (op_lss _ _ rfl rfl (by assumption)) ?_
    | refine DL_c (op_lss _ _ rfl rfl rfl) ?_
  refine DL_nil (hK6 _ ?_)
  clear hK6; try clear K6
  refine D_seq fun K7 hK7 => ?_
  refine D_splitC rfl (fun hc21 => ?_) (fun hc21 => ?_)
  · skip
    obtain ⟨u, hu⟩ : ∃ u, u = L.getD j 0 := ⟨_, rfl⟩
    have hum : u ∈ L := hu ▸ getD_mem (by omega)
    have hun := hwt u hum
    have htk : L.take (j + 1) = L.take j ++ [u] := by rw [take1 0 (by omega), hu]
    have hag := ancW_get (E := E) hun
    have hsw : susW n E (whr st 2).testBit u < 18446744073709551616 := cw_lt n _ hn
    refine D_skip (hK7 _ ?_)
    clear hK7; try clear K7
    refine D_seq fun K8 hK8 => ?_
    refine D_block ?_
    refine D_seq fun K9 hK9 => ?_
    refine D_region ?_
    first
      | refine DL_c (op_ixS _ _ inferInstance rfl rfl _ rfl (by omega) (by first | assumption | decide | (simp only [isl_len, bsl_len, psl_len, mrows_len, nsl_len, ws_len, List.length_map, ul_len, psl_len, isl_len, nrows_len, prL_len]; omega) | (simp; done) | (simp; omega) | (simp [isl, bsl]; omega)) (by first | exact Nat.mul_one _ | rfl | omega)) ?_
      | refine DL_c (op_ixS _ _ inferInstance rfl rfl (Int.toNat _) (Int.toNat_of_nonneg (by omega)).symm (by omega) (by first | assumption | decide | (simp only [isl_len, bsl_len, psl_len, mrows_len, nsl_len, ws_len, List.length_map, ul_len, psl_len, isl_len, nrows_len, prL_len]; omega) | (simp; done) | (simp; omega) | (simp [isl, bsl]; omega)) (by first | exact Nat.mul_one _ | rfl | omega)) ?_
    refine DL_c (op_ldF _ inferInstance rfl (by exact (nsl_get _ _ (by omega)).trans (by rw [← hu])) rfl) ?_
    refine DL_c (op_as _ (rfl : _ = AV.v (.int _ _))) ?_
    refine DL_nil (hK9 _ ?_)
    clear hK9; try clear K9
    refine D_seq fun K10 hK10 => ?_
    refine D_le (σ' := mkStI 48 [(0, _), (7, _), (8, _), (9, _), (11, _), (18, _), (19, _), (20, _)] [((9, 0), _)] [] []) (by
      refine Le.mkJ [] [] rfl ?_ ?_ trivial trivial ?_
      · exact ⟨(iF rfl), (iV rfl), (iV rfl), (iR rfl), (iV rfl), (iS rfl), (iV rfl), (iV rfl), trivial⟩
      · exact ⟨(obE rfl rfl rfl), trivial⟩
      · kernel_rfl) ?_
    refine D_anyL 12 [24, 25, 26, 27, 28, 29, 30, 31, 32, 33, 34, 35] [] (by kernel_rfl) (by kernel_rfl) rfl (nodupO_iff rfl) (rfl : _ = [_, _, _, _, _, _, _, _, _, _, _, _]) (rfl : _ = []) ?_
    refine any_c (_, []) (fun τ => op_mv _ (rfl : _ = AV.fp _ _)) ?_
    refine any_n (rfl : _ = [_]) ?_
    refine any_c (_, []) (fun τ => op_nilc _ rfl) ?_
    refine any_n (rfl : _ = [_, _]) ?_
    refine any_c (_, []) (fun τ => op_fldF _ inferInstance rfl rfl) ?_
    refine any_n (rfl : _ = [_, _, _]) ?_
    refine any_c (_, []) (fun τ => op_ldF _ inferInstance rfl (rfl : _ = some (PV.sl n (ul (ancW n E)))) rfl) ?_
    refine any_n (rfl : _ = [_, _, _, _]) ?_
    refine any_c (_, []) (fun τ => op_mv _ (rfl : _ = AV.v (.int _ _))) ?_
    refine any_n (rfl : _ = [_, _, _, _, _]) ?_
    refine any_c (_, []) (fun τ => op_ixS _ _ inferInstance rfl rfl u rfl (by omega) (by simp; omega) (Nat.mul_one _)) ?_
    refine any_n (rfl : _ = [_, _, _, _, _, _]) ?_
    refine any_c (_, []) (fun τ => op_ldF _ inferInstance rfl (by exact (ul_get _ _ (by omega)).trans (by rw [hag])) rfl) ?_
    refine any_n (rfl : _ = [_, _, _, _, _, _, _]) ?_
    refine any_c (_, []) (fun τ => op_mv _ (rfl : _ = AV.v (.int _ _))) ?_
    refine any_n (rfl : _ = [_, _, _, _, _, _, _, _]) ?_
    refine any_c (_, []) (fun τ => op_and _ _ rfl rfl (u64_and _ _ (aw1_lt hn E u) hb1)) ?_
    refine any_n (rfl : _ = [_, _, _, _, _, _, _, _, _]) ?_
    refine any_c (_, []) (fun τ => op_mv _ (rfl : _ = AV.v (.int _ _))) ?_
    refine any_n (rfl : _ = [_, _, _, _, _, _, _, _, _, _]) ?_
    refine any_c (_, []) (fun τ => (op_callH inferInstance (by repeat' (first | exact argsLv_nil | refine argsLv_cons ?_ ?_ | exact Lv.v | exact lvI (by omega) | exact Lv.sl | exact Lv.fp | exact Lv.nil | refine Lv.agg rfl ?_ | refine Lv.fn rfl ?_ rfl ?_ | exact lv_nil | refine lv_cons ?_ ?_ | exact Lv.z0)) (with_spec 0 u (by omega) (by omega)) rfl rfl)) ?_
    refine any_n (rfl : _ = [_, _, _, _, _, _, _, _, _, _, _]) ?_
    first
      | refine any_c (_, []) (fun τ => op_eql _ _ rfl rfl (by assumption)) ?_
      | refine any_c (_, []) (fun τ => op_eql _ _ rfl rfl rfl) ?_
    refine any_n (rfl : _ = [_, _, _, _, _, _, _, _, _, _, _, _]) ?_
    refine any_end ⟨rfl, ?_⟩
    refine DL_nil (hK10 _ ?_)
    clear hK10; try clear K10
    refine D_splitC rfl (fun hc35 => ?_) (fun hc35 => ?_)
    · skip
      have hmy := minL_yes (n := n) (E := E) (st := st) (l := L.take j) (v := u) (by rw [Nat.zero_or] at hc35; omega)
      rw [← htk] at hmy
      refine D_region ?_
      refine DL_c (op_mv _ (rfl : _ = AV.ref _ _ _)) ?_
      refine DL_c (op_mv _ (rfl : _ = AV.v (.int _ _))) ?_
      refine DL_c (op_mv _ (rfl : _ = AV.fp _ _)) ?_
      refine DL_c (op_mv _ (rfl : _ = AV.v (.int _ _))) ?_
      refine DL_c (op_mv _ (rfl : _ = AV.v (.int _ _))) ?_
      refine DL_c (op_callH inferInstance (by repeat' (first | exact argsLv_nil | refine argsLv_cons ?_ ?_ | exact Lv.v | exact lvI (by omega) | exact Lv.sl | exact Lv.fp | exact Lv.nil | refine Lv.agg rfl ?_ | refine Lv.fn rfl ?_ rfl ?_ | exact lv_nil | refine lv_cons ?_ ?_ | exact Lv.z0)) (suspects_spec n E P (ancW n E) hP u hun (whr st 2) hb2) rfl rfl) ?_
      refine DL_c (op_callH inferInstance (by repeat' (first | exact argsLv_nil | refine argsLv_cons ?_ ?_ | exact Lv.v | exact lvI (by omega) | exact Lv.sl | exact Lv.fp | exact Lv.nil | refine Lv.agg rfl ?_ | refine Lv.fn rfl ?_ rfl ?_ | exact lv_nil | refine lv_cons ?_ ?_ | exact Lv.z0)) (list_spec _ hsw) rfl rfl) ?_
      refine DL_c (op_build _ inferInstance rfl (by exact (rfl : _ = some [_, _]))) ?_
      refine DL_c (op_bsF _ _ inferInstance rfl (by rfl) (by simp <;> rfl) (by decide) rfl) ?_
      refine DL_c (op_ap (45, 0) _ _ inferInstance rfl rfl (by first | rfl | omega | (simp only [isl_len, bsl_len, psl_len, mrows_len, nsl_len, ws_len, List.length_map, ul_len, psl_len, isl_len, nrows_len, prL_len]; omega) | (simp; done) | (simp; omega)) (by first | exact .nil | (refine .sl ?_; first | (simp [isl]; done) | (simp [isl]; omega)) | (refine .ref rfl rfl ?_; first | (simp; done) | (simp; omega))) (by omega) rfl (rfl) (rfl)) ?_
      refine DL_c (op_as _ (rfl : _ = AV.ref _ _ _)) ?_
      refine DL_nil (hK8 _ ?_)
      clear hK8; try clear K8
      refine D_le (σ' := mkStI 48 [(0, _), (7, _), (8, _), (9, _), (18, _), (19, _), (20, _)] [((45, 0), _)] [] []) (by
        refine Le.mkJ [] [] rfl ?_ ?_ trivial trivial ?_
        · exact ⟨(iF rfl), (iV rfl), (iV rfl), (iR rfl), (iS rfl), (iV rfl), (iV rfl), trivial⟩
        · exact ⟨(obE rfl rfl rfl), trivial⟩
        · kernel_rfl) ?_
      refine D_region ?_
      first
        | refine DL_c (op_add _ _ rfl rfl (i64w (by omega))) ?_
        | refine DL_c (op_add _ _ rfl rfl rfl) ?_
      refine DL_c (op_mv _ (rfl : _ = AV.v (.int _ _))) ?_
      refine DL_nil ?_
      refine ⟨j + 1, ?_, ?_, ?_⟩
      · first | omega | trivial | exact ⟨by omega, by omega⟩
      · skip
        refine Le.mkJ [((9, 0), (45, 0))] [] rfl ?_ ?_ trivial trivial ?_
        · exact ⟨(by repeat' (first | exact Lv.v | exact Lv.sl | exact Lv.fp | exact lvRr (id := (9, 0)) rfl rfl | exact lvPr (id := (9, 0)) rfl | exact lvRr rfl rfl | exact lvPr rfl | exact Lv.mp | exact Lv.nil | exact Lv.z | exact Lv.dead | refine Lv.agg rfl ?_ | refine Lv.fn rfl ?_ rfl ?_ | refine Lv.tup rfl ?_ | refine Lv.ifc ?_ | exact lv_nil | refine lv_cons ?_ ?_)), (by repeat' (first | exact Lv.v | exact Lv.sl | exact Lv.fp | exact lvRr (id := (9, 0)) rfl rfl | exact lvPr (id := (9, 0)) rfl | exact lvRr rfl rfl | exact lvPr rfl | exact Lv.mp | exact Lv.nil | exact Lv.z | exact Lv.dead | refine Lv.agg rfl ?_ | refine Lv.fn rfl ?_ rfl ?_ | refine Lv.tup rfl ?_ | refine Lv.ifc ?_ | exact lv_nil | refine lv_cons ?_ ?_)), (by repeat' (first | exact Lv.v | exact Lv.sl | exact Lv.fp | exact lvRr (id := (9, 0)) rfl rfl | exact lvPr (id := (9, 0)) rfl | exact lvRr rfl rfl | exact lvPr rfl | exact Lv.mp | exact Lv.nil | exact Lv.z | exact Lv.dead | refine Lv.agg rfl ?_ | refine Lv.fn rfl ?_ rfl ?_ | refine Lv.tup rfl ?_ | refine Lv.ifc ?_ | exact lv_nil | refine lv_cons ?_ ?_)), (by repeat' (first | exact Lv.v | exact Lv.sl | exact Lv.fp | exact lvRr (id := (9, 0)) rfl rfl | exact lvPr (id := (9, 0)) rfl | exact lvRr rfl rfl | exact lvPr rfl | exact Lv.mp | exact Lv.nil | exact Lv.z | exact Lv.dead | refine Lv.agg rfl ?_ | refine Lv.fn rfl ?_ rfl ?_ | refine Lv.tup rfl ?_ | refine Lv.ifc ?_ | exact lv_nil | refine lv_cons ?_ ?_)), (by repeat' (first | exact Lv.v | exact Lv.sl | exact Lv.fp | exact lvRr (id := (9, 0)) rfl rfl | exact lvPr (id := (9, 0)) rfl | exact lvRr rfl rfl | exact lvPr rfl | exact Lv.mp | exact Lv.nil | exact Lv.z | exact Lv.dead | refine Lv.agg rfl ?_ | refine Lv.fn rfl ?_ rfl ?_ | refine Lv.tup rfl ?_ | refine Lv.ifc ?_ | exact lv_nil | refine lv_cons ?_ ?_)), (lvI (by first | rfl | omega | (first | (rw [hmy, List.length_append]; rfl) | (rw [hmy, ← blR_app])) | (simp; done) | (simp; omega) | assumption)), (lvRr rfl (by first | rfl | omega | (first | (rw [hmy, List.length_append]; rfl) | (rw [hmy, ← blR_app])) | (simp; done) | (simp; omega) | assumption)), trivial⟩
        · exact ⟨(obR rfl rfl rfl (by first | rfl | omega | (first | (rw [hmy, List.length_append]; rfl) | (rw [hmy, ← blR_app])) | (simp; done) | (simp; omega) | assumption)), trivial⟩
        · kernel_rfl
      · omega
    · skip
      have hmn := minL_no (n := n) (E := E) (st := st) (l := L.take j) (v := u) (by rw [Nat.zero_or] at hc35; omega)
      rw [← htk] at hmn
      refine D_skip (hK8 _ ?_)
      clear hK8; try clear K8
      refine D_region ?_
      first
        | refine DL_c (op_add _ _ rfl rfl (i64w (by omega))) ?_
        | refine DL_c (op_add _ _ rfl rfl rfl) ?_
      refine DL_c (op_mv _ (rfl : _ = AV.v (.int _ _))) ?_
      refine DL_nil ?_
      refine ⟨j + 1, ?_, ?_, ?_⟩
      · first | omega | trivial | exact ⟨by omega, by omega⟩
      · skip
        refine Le.mkJ [] [] rfl ?_ ?_ trivial trivial ?_
        · exact ⟨(iF rfl), (iV rfl), (iV rfl), (iS rfl), (iV rfl), (lvI (by first | rfl | omega | (rw [hmn]) | (simp; done) | (simp; omega) | assumption)), (lvRr rfl (by first | rfl | omega | (rw [hmn]) | (simp; done) | (simp; omega) | assumption)), trivial⟩
        · exact ⟨(obR rfl rfl rfl (by first | rfl | omega | (rw [hmn]) | (simp; done) | (simp; omega) | assumption)), trivial⟩
        · kernel_rfl
      · omega
  · skip
    have htl : L.take j = L := List.take_of_length_le (by omega)
    refine D_exit ?_
    refine id (hK4 _ ?_)
    clear hK4; try clear K4
    refine D_seq fun K11 hK11 => ?_
    refine D_region ?_
    refine DL_c (op_mv _ (rfl : _ = AV.ref _ _ _)) ?_
    refine DL_c (op_as _ (rfl : _ = AV.ref _ _ _)) ?_
    refine DL_nil (hK11 _ ?_)
    clear hK11; try clear K11
    refine D_ret ?_
    rw [show minL n E st L = minL n E st (L.take j) from by rw [htl]]
    exact ret1 (.inr rfl) rfl (.tmp (rfl : _ = AV.ref _ _ _)) (Le.out [] [(9, 0)] (frz0 rfl rfl (by rw [blR_len]) rfl) rfl rfl rfl ⟨rfl, trivial⟩ trivial)
end Go.Proofs.Ytkbkmngbenohkaa
