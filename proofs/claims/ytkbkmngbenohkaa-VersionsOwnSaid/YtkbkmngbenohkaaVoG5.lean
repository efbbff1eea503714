/- graph.Topo by the machine. -/
import Derived.Test.YtkbkmngbenohkaaVoG4
import Derived.Test.YtkbkmngbenohkaaVoG2
import Derived.Test.YtkbkmngbenohkaaVoV1
set_option linter.unusedSimpArgs false
set_option linter.unusedVariables false
namespace Go.Proofs.Ytkbkmngbenohkaa
open Go.RowKit

abbrev qI (n : Nat) (L : List Int) : List (Oid × Cells) := [((0, 9), .box 117 [.ref (1, 9) 0 n]), ((1, 9), .row 3 1 (isl L)), ((2, 9), .box 116 [.ptr (0, 9) 0])]
theorem topo1_spec (n : Nat) (L : List Int) (hL : L.length = n) (h1 : n ≤ 1000000) (x : Int) :
    Spec Try.prog 91 (inStI [.v (.int .i64 x), .ptr (2, 9) 0] (qI n L)) (outStI (.tup []) [((0, 9), .box 117 [.ref (1, 8) 0 (n + 1)]), ((1, 8), .row 3 1 (isl (hpush L x))), ((2, 9), .box 116 [.ptr (0, 9) 0])] [(0, 9), (1, 8), (2, 9)] [(0, 9), (2, 9)]) := by
  refine Spec.ofNI Try.func91 rfl Try.ntmps91 rfl ?_
  refine D_region ?_
  first
    | refine DL_c (op_ldB _ inferInstance rfl rfl (rfl : _ = some (AV.ptr _ _))) ?_
    | refine DL_c (op_ldR _ inferInstance rfl rfl (by first | rfl | exact isl_get _ _ (by omega) | exact bsl_get _ _ (by omega) | assumption | exact isl_get _ _ (by omega) | exact nrows_get _ _ (by omega)) rfl) ?_
  first
    | refine DL_c (op_mkI _ Try.underlying116 rfl (rfl : _ = AV.ptr _ _)) ?_
    | refine DL_c (op_mkI _ Try.underlying116 rfl (rfl : _ = AV.fp _ _)) ?_
    | refine DL_c (op_mkI _ Try.underlying116 rfl (rfl : _ = AV.v (.pointer _))) ?_
  refine DL_c (op_mv _ (rfl : _ = AV.v (.int _ _))) ?_
  refine DL_c (op_mkI _ Try.underlying3 rfl (rfl : _ = AV.v (.int _ _))) ?_
  refine DL_c (op_callR inferInstance [((1, 8), (50, 0))] ?_ (heapPush_spec n L hL h1 x) ⟨⟨rfl, ⟨_, rfl, .box rfl (lv_cons (lvRr rfl rfl) lv_nil)⟩, rfl⟩, ⟨rfl, ⟨_, rfl, .rowE rfl⟩, rfl⟩, trivial⟩ ⟨rfl, rfl, trivial⟩ (by kernel_rfl)) ?_
  · repeat' (first | exact argsR_nil | refine argsR_cons ?_ ?_ | exact Lv.v | exact lvI (by assumption) | exact lvI (by omega) | exact Lv.sl | exact Lv.fp | exact Lv.nil | exact lvRr rfl rfl | exact lvPr rfl | refine Lv.agg rfl ?_ | refine Lv.fn rfl ?_ rfl ?_ | refine Lv.ifc ?_ | exact lv_nil | refine lv_cons ?_ ?_)
  refine DL_nil ?_
  exact ret0 (.inl rfl) rfl (Le.outI [((1, 8), (50, 0))] [] (.tup rfl lv_nil) rfl rfl rfl trivial ⟨⟨rfl, ⟨_, rfl, .box rfl (lv_cons (lvRr rfl rfl) lv_nil)⟩, rfl⟩, ⟨rfl, ⟨_, rfl, .rowE rfl⟩, rfl⟩, ⟨rfl, ⟨_, rfl, .box rfl (lv_cons (lvPr rfl) lv_nil)⟩, rfl⟩, trivial⟩ ⟨rfl, rfl, trivial⟩ rfl)
theorem TI.wbd {n : Nat} {S : List (List Int)} {out : List Nat} {H W r : List Int} (t : TI n S out H W r) {b : Nat} (hb : b < n) : W.getD b 0 ≤ (n : Int) + r.length := by
  have h1 := t.w b hb
  have h2 : ind n S out b ≤ n := by
    have : ind n S out b ≤ (List.range n).length := List.countP_le_length
    simpa using this
  have h3 : r.count (b : Int) ≤ r.length := List.count_le_length
  omega
theorem drop1 {l : List Int} {j : Nat} (h : j < l.length) : l.drop j = l.getD j 0 :: l.drop (j + 1) := by
  rw [List.drop_eq_getElem_cons h, List.getD_eq_getElem?_getD, List.getElem?_eq_getElem h]; rfl
theorem nxS_get {n : Nat} {E : Prs} {a : Nat} (h : a < n) : (nxS n E).getD a [] = srt (nxt E a) := by rw [nxM_get h, if_pos h]
theorem nxS_se {n : Nat} {E : Prs} (hE : inE n E = true) : SE n E (nxS n E) := ⟨hE, fun a ha x => by rw [nxS_get ha, (srt_perm _).mem_iff, nxt_mem]⟩
theorem topo_spec (n : Nat) (hn : n ≤ 64) (m : Nat) (E : Prs) (hm : E.length = m) (h1 : m ≤ 1000000) (hE : inE n E = true) (hS : ∀ a, a < n → (nxt E a).length ≤ 12 ∧ (nxt E a).Nodup) :
    Spec Try.prog 54 (inSt [.v (.int .i64 (n : Int)), .sl m (psl E)] []) (outSt (topoR n (nxS n E)) []) := by
  have hsl : ∀ a, a < n → ((nxS n E).getD a []).length ≤ 12 := fun a ha => by rw [nxS_get ha, srt_len]; exact (hS a ha).1
  have hsn : ∀ a, a < n → ((nxS n E).getD a []).Nodup := fun a ha => by rw [nxS_get ha]; exact (srt_perm _).nodup_iff.2 (hS a ha).2
  have hsb : ∀ a, a < n → ∀ x ∈ (nxS n E).getD a [], 0 ≤ x ∧ x < (n : Int) := fun a ha x hx => by
    rw [nxS_get ha, (srt_perm _).mem_iff, nxt_mem] at hx
    have := inE_mem hE hx
    exact ⟨this.2.2.1, this.2.2.2⟩
  have hnS : (nxS n E).length = n := nxM_len n E n
  have hnr : (nrows (nxS n E)).length = n := by simp [nrows]
  generalize hSe : nxS n E = S at hsl hsn hsb hnS hnr ⊢
  refine Spec.ofN Try.func54 rfl Try.ntmps54 rfl ?_
  refine D_seq fun K1 hK1 => ?_
  refine D_region ?_
  first
    | refine DL_c (op_as _ (rfl : _ = AV.sl _ _)) ?_
    | refine DL_c (op_as _ (rfl : _ = AV.ref _ _ _)) ?_
    | refine DL_c (op_as _ (rfl : _ = AV.v (.slice _ _ _))) ?_
    | refine DL_c (op_as _ (rfl : _ = AV.z)) ?_
  refine DL_c (op_as _ (rfl : _ = AV.v (.bool _))) ?_
  refine DL_nil (hK1 _ ?_)
  clear hK1; try clear K1
  refine D_seq fun K2 hK2 => ?_
  refine D_region ?_
  refine DL_c (op_mv _ (rfl : _ = AV.v (.int _ _))) ?_
  refine DL_c (op_mv _ (rfl : _ = AV.sl _ _)) ?_
  refine DL_c (op_callH inferInstance (by repeat' (first | exact argsLv_nil | refine argsLv_cons ?_ ?_ | exact Lv.v | exact lvI (by omega) | exact Lv.sl | exact Lv.fp | exact Lv.nil | refine Lv.agg rfl ?_ | refine Lv.fn rfl ?_ rfl ?_ | exact lv_nil | refine lv_cons ?_ ?_ | exact Lv.z0)) (hSe ▸ succ_spec n hn m E hm h1 hE hS) rfl rfl) ?_
  refine DL_c (op_as _ (rfl : _ = AV.sl _ _)) ?_
  refine DL_nil (hK2 _ ?_)
  clear hK2; try clear K2
  refine D_seq fun K3 hK3 => ?_
  refine D_region ?_
  refine DL_c (op_mv _ (rfl : _ = AV.v (.int _ _))) ?_
  refine DL_c (op_mk (25, 0) _ _ inferInstance rfl rfl n rfl rfl (by omega) rfl (isl_zeros n)) ?_
  refine DL_c (op_as _ (rfl : _ = AV.ref _ _ _)) ?_
  refine DL_nil (hK3 _ ?_)
  clear hK3; try clear K3
  refine D_seq fun K4 hK4 => ?_
  refine D_seq fun K5 hK5 => ?_
  refine D_region ?_
  refine DL_c (op_mv _ (rfl : _ = AV.sl _ _)) ?_
  refine DL_c (op_lenS _ inferInstance rfl) ?_
  refine DL_c (op_mv _ (rfl : _ = AV.v (.int _ _))) ?_
  refine DL_nil (hK5 _ ?_)
  clear hK5; try clear K5
  refine D_block ?_
  refine D_loopL (α := Nat) (fun a => a ≤ n) 104 [(0, _), (6, _), (7, _), (26, _), (27, _)] [] (fun a => [(28, .v (.int .i64 (a : Int)))]) (fun a => [((25, 0), .row 3 1 (isl (wcn n S a 0)))]) [] [] (fun a => n - a) 0 ?_ (by
    refine Le.mkJ [] [] rfl ?_ ?_ trivial trivial ?_
    · exact ⟨(iV rfl), (iS rfl), (iR rfl), (iS rfl), (iV rfl), (lvI (by first | rfl | omega | (simp; done) | (simp; omega) | assumption)), trivial⟩
    · exact ⟨(obR rfl rfl rfl (by rw [wcn_zero])), trivial⟩
    · kernel_rfl) ?_
  · first | omega | trivial | exact ⟨by omega, by omega⟩
  intro a ha
  refine D_seq fun K6 hK6 => ?_
  refine D_region ?_
  first
    | refine DL_c (op_lss _ _ rfl rfl (by assumption)) ?_
    | refine DL_c (op_lss _ _ rfl rfl rfl) ?_
  refine DL_nil (hK6 _ ?_)
  clear hK6; try clear K6
  refine D_seq fun K7 hK7 => ?_
  refine D_splitC rfl (fun hc29 => ?_) (fun hc29 => ?_)
  · skip
    have hal := hsl a (by omega)
    refine D_skip (hK7 _ ?_)
    clear hK7; try clear K7
    refine D_seq fun K8 hK8 => ?_
    refine D_block ?_
    refine D_seq fun K9 hK9 => ?_
    refine D_region ?_
    refine DL_c (op_ixS _ _ inferInstance rfl rfl a rfl (by omega) (by omega) (Nat.mul_one _)) ?_
    refine DL_c (op_ldF _ inferInstance rfl (by exact nrows_get _ _ (by omega)) rfl) ?_
    first
      | refine DL_c (op_as _ (rfl : _ = AV.sl _ _)) ?_
      | refine DL_c (op_as _ (rfl : _ = AV.ref _ _ _)) ?_
      | refine DL_c (op_as _ (rfl : _ = AV.v (.slice _ _ _))) ?_
      | refine DL_c (op_as _ (rfl : _ = AV.z)) ?_
    refine DL_nil (hK9 _ ?_)
    clear hK9; try clear K9
    refine D_seq fun K10 hK10 => ?_
    refine D_region ?_
    first
      | refine DL_c (op_mv _ (rfl : _ = AV.sl _ _)) ?_
      | refine DL_c (op_mv _ (rfl : _ = AV.ref _ _ _)) ?_
      | refine DL_c (op_mv _ (rfl : _ = AV.v (.slice _ _ _))) ?_
      | refine DL_c (op_mv _ (rfl : _ = AV.z)) ?_
    first
      | refine DL_c (op_lenS _ inferInstance rfl) ?_
      | refine DL_c (op_lenR _ inferInstance rfl rfl) ?_
      | refine DL_c (op_lenN _ inferInstance rfl) ?_
      | refine DL_c (op_lenB _ inferInstance rfl rfl) ?_
      | refine DL_c (op_lenZ _ inferInstance rfl) ?_
    refine DL_c (op_mv _ (rfl : _ = AV.v (.int _ _))) ?_
    refine DL_nil (hK10 _ ?_)
    clear hK10; try clear K10
    refine D_block ?_
    refine D_loopL (α := Nat) (fun j => j ≤ (S.getD a []).length) 104 [(0, _), (6, _), (7, _), (26, _), (27, _), (28, _), (32, _), (33, _)] [] (fun j => [(34, .v (.int .i64 (j : Int)))]) (fun j => [((25, 0), .row 3 1 (isl (wcn n S a j)))]) [] [] (fun j => (S.getD a []).length - j) 0 ?_ (by
      refine Le.mkJ [] [] rfl ?_ ?_ trivial trivial ?_
      · exact ⟨(iV rfl), (iS rfl), (iR rfl), (iS rfl), (iV rfl), (iV rfl), (by first | exact iS rfl | exact iR rfl | exact iV rfl | exact iZ rfl | exact iD rfl), (iV rfl), (lvI (by first | rfl | omega | (simp; done) | (simp; omega) | assumption)), trivial⟩
      · exact ⟨(obR rfl rfl rfl (by first | rfl | omega | (simp; done) | (simp; omega) | assumption)), trivial⟩
      · kernel_rfl) ?_
    · first | omega | trivial | exact ⟨by omega, by omega⟩
    intro j hj
    refine D_seq fun K11 hK11 => ?_
    refine D_region ?_
    first
      | refine DL_c (op_lss _ _ rfl rfl (by assumption)) ?_
      | refine DL_c (op_lss _ _ rfl rfl rfl) ?_
    refine DL_nil (hK11 _ ?_)
    clear hK11; try clear K11
    refine D_seq fun K12 hK12 => ?_
    refine D_splitC rfl (fun hc35 => ?_) (fun hc35 => ?_)
    · skip
      have hbm := hsb a (by omega) ((S.getD a []).getD j 0) (getD_memI (by omega))
      obtain ⟨b, hbe⟩ := Int.eq_ofNat_of_zero_le hbm.1
      have hbn : b < n := by omega
      have hwl := wcn_len n S a j
      have hwb := wcn_bd (j := j) (m := 12) hsl (show a < n by omega) hbn
      refine D_skip (hK12 _ ?_)
      clear hK12; try clear K12
      refine D_seq fun K13 hK13 => ?_
      refine D_block ?_
      refine D_seq fun K14 hK14 => ?_
      refine D_region ?_
      first
        | refine DL_c (op_ixS _ _ inferInstance rfl rfl _ rfl (by omega) (by first | assumption | decide | (simp only [isl_len, bsl_len, psl_len, mrows_len, nsl_len, ws_len, List.length_map, nxL_len, nxM_len, wcn_len]; omega) | (simp; done) | (simp; omega) | (simp [isl, bsl]; omega)) (by first | exact Nat.mul_one _ | rfl | omega)) ?_
        | refine DL_c (op_ixS _ _ inferInstance rfl rfl (Int.toNat _) (Int.toNat_of_nonneg (by omega)).symm (by omega) (by first | assumption | decide | (simp only [isl_len, bsl_len, psl_len, mrows_len, nsl_len, ws_len, List.length_map, nxL_len, nxM_len, wcn_len]; omega) | (simp; done) | (simp; omega) | (simp [isl, bsl]; omega)) (by first | exact Nat.mul_one _ | rfl | omega)) ?_
        | refine DL_c (op_ixR _ _ inferInstance rfl rfl rfl _ rfl (by omega) (by first | exact (Nat.zero_add _).trans (Nat.mul_one _) | exact Nat.zero_add _ | rfl | omega)) ?_
        | refine DL_c (op_ixR _ _ inferInstance rfl rfl rfl (Int.toNat _) (Int.toNat_of_nonneg (by omega)).symm (by omega) (by first | exact (Nat.zero_add _).trans (Nat.mul_one _) | exact Nat.zero_add _ | rfl | omega)) ?_
        | refine DL_c (op_ixB _ _ inferInstance rfl rfl rfl _ rfl (by omega) (by first | exact (Nat.zero_add _).trans (Nat.mul_one _) | exact Nat.zero_add _ | rfl | omega)) ?_
        | refine DL_c (op_ixB _ _ inferInstance rfl rfl rfl (Int.toNat _) (Int.toNat_of_nonneg (by omega)).symm (by omega) (by first | exact (Nat.zero_add _).trans (Nat.mul_one _) | exact Nat.zero_add _ | rfl | omega)) ?_
      first
        | refine DL_c (op_ldB _ inferInstance rfl rfl (rfl : _ = some (AV.v (.int _ _)))) ?_
        | refine DL_c (op_ldR _ inferInstance rfl rfl (by first | rfl | exact isl_get _ _ (by omega) | exact bsl_get _ _ (by omega) | assumption | exact isl_get _ _ (by omega) | exact nrows_get _ _ (by omega)) rfl) ?_
        | refine DL_c (op_ldF _ inferInstance rfl (by first | rfl | exact isl_get _ _ (by omega) | exact bsl_get _ _ (by omega) | assumption | exact isl_get _ _ (by omega) | exact nrows_get _ _ (by omega)) rfl) ?_
      refine DL_c (op_as _ (rfl : _ = AV.v (.int _ _))) ?_
      refine DL_nil (hK14 _ ?_)
      clear hK14; try clear K14
      refine D_region ?_
      refine DL_c (op_mv _ (rfl : _ = AV.ref _ _ _)) ?_
      refine DL_c (op_mv _ (rfl : _ = AV.v (.int _ _))) ?_
      refine DL_c (op_ixR _ _ inferInstance rfl rfl rfl b hbe (by omega) (by exact (Nat.zero_add _).trans (Nat.mul_one _))) ?_
      refine DL_c (op_ldR _ inferInstance rfl rfl (by exact isl_get _ _ (by omega)) rfl) ?_
      first
        | refine DL_c (op_add _ _ rfl rfl (i64w (by omega))) ?_
        | refine DL_c (op_add _ _ rfl rfl rfl) ?_
      refine DL_c (op_ixR _ _ inferInstance rfl rfl rfl b hbe (by omega) (by exact (Nat.zero_add _).trans (Nat.mul_one _))) ?_
      refine DL_c (op_stR _ _ inferInstance rfl rfl rfl rfl rfl (by simp; omega) (isl_put _ _ _ (by omega))) ?_
      refine DL_nil (hK13 _ ?_)
      clear hK13; try clear K13
      refine D_region ?_
      first
        | refine DL_c (op_add _ _ rfl rfl (i64w (by omega))) ?_
        | refine DL_c (op_add _ _ rfl rfl rfl) ?_
      refine DL_c (op_mv _ (rfl : _ = AV.v (.int _ _))) ?_
      refine DL_nil ?_
      refine ⟨j + 1, ?_, ?_, ?_⟩
      · first | omega | trivial | exact ⟨by omega, by omega⟩
      · skip
        refine Le.mkJ [] [] rfl ?_ ?_ trivial trivial ?_
        · exact ⟨(iV rfl), (iS rfl), (iR rfl), (iS rfl), (iV rfl), (iV rfl), (by first | exact iS rfl | exact iR rfl | exact iV rfl | exact iZ rfl | exact iD rfl), (iV rfl), (lvI (by first | rfl | omega | (simp; done) | (simp; omega) | assumption)), trivial⟩
        · exact ⟨(obR rfl rfl rfl (by rw [wcn_succ (by omega) hbe hbn])), trivial⟩
        · kernel_rfl
      · omega
    · skip
      have hjl : j = (S.getD a []).length := by omega
      refine D_exit ?_
      refine id (hK8 _ ?_)
      clear hK8; try clear K8
      refine D_region ?_
      first
        | refine DL_c (op_add _ _ rfl rfl (i64w (by omega))) ?_
        | refine DL_c (op_add _ _ rfl rfl rfl) ?_
      refine DL_c (op_mv _ (rfl : _ = AV.v (.int _ _))) ?_
      refine DL_nil ?_
      refine ⟨a + 1, ?_, ?_, ?_⟩
      · first | omega | trivial | exact ⟨by omega, by omega⟩
      · skip
        refine Le.mkJ [] [] rfl ?_ ?_ trivial trivial ?_
        · exact ⟨(iV rfl), (iS rfl), (iR rfl), (iS rfl), (iV rfl), (lvI (by first | rfl | omega | (simp; done) | (simp; omega) | assumption)), trivial⟩
        · exact ⟨(obR rfl rfl rfl (by rw [hjl, wcn_next])), trivial⟩
        · kernel_rfl
      · omega
  · skip
    obtain rfl : n = a := by omega
    refine D_exit ?_
    refine id (hK4 _ ?_)
    clear hK4; try clear K4
    refine D_seq fun K15 hK15 => ?_
    refine D_region ?_
    refine DL_c (op_bs (46, 0) _ _ inferInstance rfl (by rfl) (by simp <;> rfl) (by decide) rfl rfl) ?_
    refine DL_c (op_box (47, 0) _ rfl rfl) ?_
    refine DL_c (op_alloc (12, 0) inferInstance rfl rfl) ?_
    refine DL_c (op_stB _ _ inferInstance rfl rfl rfl rfl (Nat.le_of_ble_eq_true rfl) rfl) ?_
    refine DL_nil (hK15 _ ?_)
    clear hK15; try clear K15
    refine D_seq fun K16 hK16 => ?_
    refine D_region ?_
    refine DL_c (op_mf _ _ (rfl : _ = []) (rfl : _ = [_])) ?_
    refine DL_c (op_as _ (rfl : _ = AV.fn _ _ _)) ?_
    refine DL_nil (hK16 _ ?_)
    clear hK16; try clear K16
    refine D_seq fun K17 hK17 => ?_
    refine D_seq fun K18 hK18 => ?_
    refine D_region ?_
    refine DL_c (op_mv _ (rfl : _ = AV.ref _ _ _)) ?_
    first
      | refine DL_c (op_lenR _ inferInstance rfl rfl) ?_
      | refine DL_c (op_lenB _ inferInstance rfl rfl) ?_
    refine DL_c (op_mv _ (rfl : _ = AV.v (.int _ _))) ?_
    refine DL_nil (hK18 _ ?_)
    clear hK18; try clear K18
    refine D_block ?_
    refine D_loopL (α := Nat × List Int) (fun z => PI n (wcn n S n 0) z.1 z.2) 104 [(0, _), (6, _), (7, _), (12, _), (13, _), (49, _), (50, _)] [((25, 0), _), ((12, 0), _)] (fun z => [(51, .v (.int .i64 (z.1 : Int)))]) (fun z => [((47, 0), .box 117 [.ref (46, 0) 0 z.2.length]), ((46, 0), .row 3 1 (isl z.2))]) [] [] (fun z => n - z.1) (0, []) ?_ (by
      refine Le.mkJ [] [] rfl ?_ ?_ trivial trivial ?_
      · exact ⟨(iV rfl), (iS rfl), (iR rfl), (iP rfl), (iN rfl), (iR rfl), (iV rfl), (lvI (by first | rfl | omega | (simp; done) | (simp; omega) | assumption)), trivial⟩
      · exact ⟨(obE rfl rfl rfl), (obE rfl rfl rfl), (obB rfl rfl rfl rfl (lv_cons (lvRr rfl (by first | rfl | omega | (simp; done) | (simp; omega) | assumption)) lv_nil)), (obR rfl rfl rfl (by first | rfl | omega | (simp; done) | (simp; omega) | assumption)), trivial⟩
      · kernel_rfl) ?_
    · exact PI.start n _
    intro z hz
    have hzi := hz.hi
    have hzl := hz.len
    have hwl := wcn_len n S n 0
    refine D_seq fun K19 hK19 => ?_
    refine D_region ?_
    first
      | refine DL_c (op_lss _ _ rfl rfl (by assumption)) ?_
      | refine DL_c (op_lss _ _ rfl rfl rfl) ?_
    refine DL_nil (hK19 _ ?_)
    clear hK19; try clear K19
    refine D_seq fun K20 hK20 => ?_
    refine D_splitC rfl (fun hc52 => ?_) (fun hc52 => ?_)
    · skip
      refine D_skip (hK20 _ ?_)
      clear hK20; try clear K20
      refine D_seq fun K21 hK21 => ?_
      refine D_block ?_
      refine D_seq fun K22 hK22 => ?_
      refine D_region ?_
      refine DL_c (op_mv _ (rfl : _ = AV.v (.int _ _))) ?_
      first
        | refine DL_c (op_ixR _ _ inferInstance rfl rfl rfl _ rfl (by omega) (by first | exact (Nat.zero_add _).trans (Nat.mul_one _) | exact Nat.zero_add _ | rfl | omega)) ?_
        | refine DL_c (op_ixR _ _ inferInstance rfl rfl rfl (Int.toNat _) (Int.toNat_of_nonneg (by omega)).symm (by omega) (by first | exact (Nat.zero_add _).trans (Nat.mul_one _) | exact Nat.zero_add _ | rfl | omega)) ?_
      first
        | refine DL_c (op_ldR _ inferInstance rfl rfl (by first | rfl | exact isl_get _ _ (by omega) | exact bsl_get _ _ (by omega) | assumption | exact isl_get _ _ (by omega) | exact nrows_get _ _ (by omega)) rfl) ?_
        | refine DL_c (op_ldB _ inferInstance rfl rfl (rfl : _ = some (AV.v (.int _ _)))) ?_
      refine DL_c (op_as _ (rfl : _ = AV.v (.int _ _))) ?_
      refine DL_c (op_as _ (rfl : _ = AV.v (.int _ _))) ?_
      refine DL_nil (hK22 _ ?_)
      clear hK22; try clear K22
      refine D_seq fun K23 hK23 => ?_
      refine D_region ?_
      refine DL_c (op_mv _ (rfl : _ = AV.v (.int _ _))) ?_
      first
        | refine DL_c (op_eql _ _ rfl rfl (by assumption)) ?_
        | refine DL_c (op_eql _ _ rfl rfl rfl) ?_
      refine DL_nil (hK23 _ ?_)
      clear hK23; try clear K23
      refine D_splitC rfl (fun hc57 => ?_) (fun hc57 => ?_)
      · skip
        refine D_region ?_
        refine DL_c (op_mv _ (rfl : _ = AV.fn _ _ _)) ?_
        refine DL_c (op_mv _ (rfl : _ = AV.v (.int _ _))) ?_
        refine DL_c (op_callRV rfl inferInstance [((0, 9), (47, 0)), ((1, 9), (46, 0)), ((2, 9), (12, 0)), ((1, 8), (50, 0))] ?_ (topo1_spec z.2.length z.2 rfl (by omega) z.1) ⟨⟨rfl, ⟨_, rfl, .box rfl (lv_cons (lvRr rfl rfl) lv_nil)⟩, rfl⟩, ⟨rfl, ⟨_, rfl, .rowE rfl⟩, rfl⟩, ⟨rfl, ⟨_, rfl, .box rfl (lv_cons (lvPr rfl) lv_nil)⟩, rfl⟩, trivial⟩ ⟨rfl, rfl, rfl, trivial⟩ (by kernel_rfl)) ?_
        · repeat' (first | exact argsR_nil | refine argsR_cons ?_ ?_ | exact Lv.v | exact lvI (by assumption) | exact lvI (by omega) | exact Lv.sl | exact Lv.fp | exact Lv.nil | exact lvRr rfl rfl | exact lvPr rfl | refine Lv.agg rfl ?_ | refine Lv.fn rfl ?_ rfl ?_ | refine Lv.ifc ?_ | exact lv_nil | refine lv_cons ?_ ?_)
        refine DL_nil (hK21 _ ?_)
        clear hK21; try clear K21
        refine D_region ?_
        first
          | refine DL_c (op_add _ _ rfl rfl (i64w (by omega))) ?_
          | refine DL_c (op_add _ _ rfl rfl rfl) ?_
        refine DL_c (op_mv _ (rfl : _ = AV.v (.int _ _))) ?_
        refine DL_nil ?_
        refine ⟨(z.1 + 1, hpush z.2 z.1), ?_, ?_, ?_⟩
        · exact hz.push (by omega) (by omega)
        · skip
          refine Le.mkJ [((46, 0), (50, 0))] [] rfl ?_ ?_ trivial trivial ?_
          · exact ⟨(by repeat' (first | exact Lv.v | exact Lv.sl | exact Lv.fp | exact lvRr (id := (25, 0)) rfl rfl | exact lvPr (id := (25, 0)) rfl | exact lvRr (id := (12, 0)) rfl rfl | exact lvPr (id := (12, 0)) rfl | exact lvRr (id := (47, 0)) rfl rfl | exact lvPr (id := (47, 0)) rfl | exact lvRr (id := (46, 0)) rfl rfl | exact lvPr (id := (46, 0)) rfl | exact lvRr rfl rfl | exact lvPr rfl | exact Lv.mp | exact Lv.nil | exact Lv.z | exact Lv.dead | refine Lv.agg rfl ?_ | refine Lv.fn rfl ?_ rfl ?_ | refine Lv.tup rfl ?_ | refine Lv.ifc ?_ | exact lv_nil | refine lv_cons ?_ ?_)), (by repeat' (first | exact Lv.v | exact Lv.sl | exact Lv.fp | exact lvRr (id := (25, 0)) rfl rfl | exact lvPr (id := (25, 0)) rfl | exact lvRr (id := (12, 0)) rfl rfl | exact lvPr (id := (12, 0)) rfl | exact lvRr (id := (47, 0)) rfl rfl | exact lvPr (id := (47, 0)) rfl | exact lvRr (id := (46, 0)) rfl rfl | exact lvPr (id := (46, 0)) rfl | exact lvRr rfl rfl | exact lvPr rfl | exact Lv.mp | exact Lv.nil | exact Lv.z | exact Lv.dead | refine Lv.agg rfl ?_ | refine Lv.fn rfl ?_ rfl ?_ | refine Lv.tup rfl ?_ | refine Lv.ifc ?_ | exact lv_nil | refine lv_cons ?_ ?_)), (lvRr (id := (25, 0)) rfl rfl), (lvPr (id := (12, 0)) rfl), (by repeat' (first | exact Lv.v | exact Lv.sl | exact Lv.fp | exact lvRr (id := (25, 0)) rfl rfl | exact lvPr (id := (25, 0)) rfl | exact lvRr (id := (12, 0)) rfl rfl | exact lvPr (id := (12, 0)) rfl | exact lvRr (id := (47, 0)) rfl rfl | exact lvPr (id := (47, 0)) rfl | exact lvRr (id := (46, 0)) rfl rfl | exact lvPr (id := (46, 0)) rfl | exact lvRr rfl rfl | exact lvPr rfl | exact Lv.mp | exact Lv.nil | exact Lv.z | exact Lv.dead | refine Lv.agg rfl ?_ | refine Lv.fn rfl ?_ rfl ?_ | refine Lv.tup rfl ?_ | refine Lv.ifc ?_ | exact lv_nil | refine lv_cons ?_ ?_)), (lvRr (id := (25, 0)) rfl rfl), (by repeat' (first | exact Lv.v | exact Lv.sl | exact Lv.fp | exact lvRr (id := (25, 0)) rfl rfl | exact lvPr (id := (25, 0)) rfl | exact lvRr (id := (12, 0)) rfl rfl | exact lvPr (id := (12, 0)) rfl | exact lvRr (id := (47, 0)) rfl rfl | exact lvPr (id := (47, 0)) rfl | exact lvRr (id := (46, 0)) rfl rfl | exact lvPr (id := (46, 0)) rfl | exact lvRr rfl rfl | exact lvPr rfl | exact Lv.mp | exact Lv.nil | exact Lv.z | exact Lv.dead | refine Lv.agg rfl ?_ | refine Lv.fn rfl ?_ rfl ?_ | refine Lv.tup rfl ?_ | refine Lv.ifc ?_ | exact lv_nil | refine lv_cons ?_ ?_)), (lvI (by first | rfl | omega | (first | rfl | (rw [hpush_len hz.hp]; done)) | (simp; done) | (simp; omega) | assumption)), trivial⟩
          · exact ⟨(obR rfl rfl rfl rfl), (obB rfl rfl rfl rfl (by repeat' (first | exact Lv.v | exact Lv.sl | exact Lv.fp | exact lvRr (id := (25, 0)) rfl rfl | exact lvPr (id := (25, 0)) rfl | exact lvRr (id := (12, 0)) rfl rfl | exact lvPr (id := (12, 0)) rfl | exact lvRr (id := (47, 0)) rfl rfl | exact lvPr (id := (47, 0)) rfl | exact lvRr (id := (46, 0)) rfl rfl | exact lvPr (id := (46, 0)) rfl | exact lvRr rfl rfl | exact lvPr rfl | exact Lv.mp | exact Lv.nil | exact Lv.z | exact Lv.dead | refine Lv.agg rfl ?_ | refine Lv.fn rfl ?_ rfl ?_ | refine Lv.tup rfl ?_ | refine Lv.ifc ?_ | exact lv_nil | refine lv_cons ?_ ?_))), (obB rfl rfl rfl rfl (lv_cons (lvRr rfl (by first | rfl | omega | (first | rfl | (rw [hpush_len hz.hp]; done)) | (simp; done) | (simp; omega) | assumption)) lv_nil)), (obR rfl rfl rfl (by first | rfl | omega | (first | rfl | (rw [hpush_len hz.hp]; done)) | (simp; done) | (simp; omega) | assumption)), trivial⟩
          · kernel_rfl
        · simp only; omega
      · skip
        refine D_skip (hK21 _ ?_)
        clear hK21; try clear K21
        refine D_region ?_
        first
          | refine DL_c (op_add _ _ rfl rfl (i64w (by omega))) ?_
          | refine DL_c (op_add _ _ rfl rfl rfl) ?_
        refine DL_c (op_mv _ (rfl : _ = AV.v (.int _ _))) ?_
        refine DL_nil ?_
        refine ⟨(z.1 + 1, z.2), ?_, ?_, ?_⟩
        · exact hz.skip (by omega) (by omega)
        · skip
          refine Le.mkJ [] [] rfl ?_ ?_ trivial trivial ?_
          · exact ⟨(iV rfl), (iS rfl), (iR rfl), (iP rfl), (iN rfl), (iR rfl), (iV rfl), (lvI (by first | rfl | omega | (simp; done) | (simp; omega) | assumption)), trivial⟩
          · exact ⟨(obE rfl rfl rfl), (obE rfl rfl rfl), (obB rfl rfl rfl rfl (lv_cons (lvRr rfl (by first | rfl | omega | (simp; done) | (simp; omega) | assumption)) lv_nil)), (obR rfl rfl rfl (by first | rfl | omega | (simp; done) | (simp; omega) | assumption)), trivial⟩
          · kernel_rfl
        · simp only; omega
    · skip
      have hzn : z.1 = n := by omega
      have hL0 : LI n S [] z.2 (wcn n S n 0) := LI.start hsn (hzn ▸ hz)
      refine D_exit ?_
      refine id (hK17 _ ?_)
      clear hK17; try clear K17
      refine D_seq fun K24 hK24 => ?_
      refine D_region ?_
      refine DL_c (op_asN (16, 0) _ 3 1 rfl rfl) ?_
      refine DL_nil (hK24 _ ?_)
      clear hK24; try clear K24
      refine D_seq fun K25 hK25 => ?_
      refine D_region ?_
      first
        | refine DL_c (op_ldB _ inferInstance rfl rfl (rfl : _ = some (AV.ptr _ _))) ?_
        | refine DL_c (op_ldR _ inferInstance rfl rfl (by first | rfl | exact isl_get _ _ (by omega) | exact bsl_get _ _ (by omega) | assumption | exact isl_get _ _ (by omega) | exact nrows_get _ _ (by omega)) rfl) ?_
      refine DL_c (op_mf _ _ (rfl : _ = [_]) (rfl : _ = [])) ?_
      refine DL_c (op_as _ (rfl : _ = AV.fn _ _ _)) ?_
      refine DL_nil (hK25 _ ?_)
      clear hK25; try clear K25
      refine D_seq fun K26 hK26 => ?_
      refine D_block ?_
      refine D_loopL (α := List Nat × List Int × List Int) (fun y => LI n S y.1 y.2.1 y.2.2) 104 [(0, _), (6, _), (7, _), (12, _), (13, _), (17, _)] [((12, 0), _)] (fun y => [(16, .ref (16, 0) 0 y.1.length)]) (fun y => [((16, 0), .row 3 1 (nsl y.1)), ((47, 0), .box 117 [.ref (46, 0) 0 y.2.1.length]), ((46, 0), .row 3 1 (isl y.2.1)), ((25, 0), .row 3 1 (isl y.2.2))]) [] [] (fun y => n - y.1.length) ([], z.2, wcn n S n 0) ?_ (by
        refine Le.mkJ [] [] rfl ?_ ?_ trivial trivial ?_
        · exact ⟨(iV rfl), (iS rfl), (iR rfl), (iP rfl), (iN rfl), (iN rfl), (lvRr rfl (by first | rfl | omega | (first | (simp only [List.length_append]; rfl) | (simp only [← nsl_append, hae]; rfl)) | (simp; done) | (simp; omega) | assumption)), trivial⟩
        · exact ⟨(obE rfl rfl rfl), (obR rfl rfl rfl (by first | rfl | omega | (first | (simp only [List.length_append]; rfl) | (simp only [← nsl_append, hae]; rfl)) | (simp; done) | (simp; omega) | assumption)), (obB rfl rfl rfl rfl (lv_cons (lvRr rfl (by first | rfl | omega | (first | (simp only [List.length_append]; rfl) | (simp only [← nsl_append, hae]; rfl)) | (simp; done) | (simp; omega) | assumption)) lv_nil)), (obR rfl rfl rfl (by first | rfl | omega | (first | (simp only [List.length_append]; rfl) | (simp only [← nsl_append, hae]; rfl)) | (simp; done) | (simp; omega) | assumption)), (obR rfl rfl rfl (by first | rfl | omega | (first | (simp only [List.length_append]; rfl) | (simp only [← nsl_append, hae]; rfl)) | (simp; done) | (simp; omega) | assumption)), trivial⟩
        · kernel_rfl) ?_
      · exact hL0
      intro y hy
      have hyo := hy.t.outlen
      have hyh := hy.t.hlen
      have hyw := hy.t.wl
      refine D_seq fun K27 hK27 => ?_
      refine D_seq fun K28 hK28 => ?_
      refine D_region ?_
      refine DL_c (op_mv _ (rfl : _ = AV.fn _ _ _)) ?_
      refine DL_c (op_callRV rfl inferInstance [((0, 9), (47, 0)), ((1, 9), (46, 0))] ?_ (qlen_spec y.2.1.length y.2.1) ⟨⟨rfl, ⟨_, rfl, .box rfl (lv_cons (lvRr rfl rfl) lv_nil)⟩, rfl⟩, ⟨rfl, ⟨_, rfl, .rowE rfl⟩, rfl⟩, trivial⟩ ⟨rfl, rfl, trivial⟩ (by kernel_rfl)) ?_
      · repeat' (first | exact argsR_nil | refine argsR_cons ?_ ?_ | exact Lv.v | exact lvI (by assumption) | exact lvI (by omega) | exact Lv.sl | exact Lv.fp | exact Lv.nil | exact lvRr rfl rfl | exact lvPr rfl | refine Lv.agg rfl ?_ | refine Lv.fn rfl ?_ rfl ?_ | refine Lv.ifc ?_ | exact lv_nil | refine lv_cons ?_ ?_)
      first
        | refine DL_c (op_gtr _ _ rfl rfl (by assumption)) ?_
        | refine DL_c (op_gtr _ _ rfl rfl rfl) ?_
      refine DL_nil (hK28 _ ?_)
      clear hK28; try clear K28
      refine D_splitC rfl (fun hc66 => ?_) (fun hc66 => ?_)
      · skip
        have hh0 : 0 < y.2.1.length := by omega
        obtain ⟨a, hae⟩ := Int.eq_ofNat_of_zero_le (hy.t.hb _ (getD_memI hh0)).1
        have han0 : a < n := by have := (hy.t.hb _ (getD_memI hh0)).2; omega
        obtain ⟨han, hyn, hT0, hk0⟩ := hy.pop hh0 hae (hsn a han0) (hsb a han0)
        have hal := hsl a han
        have hpl := (hpop_ok hy.t.hp hh0).2.1
        refine D_skip (hK27 _ ?_)
        clear hK27; try clear K27
        refine D_block ?_
        refine D_seq fun K29 hK29 => ?_
        refine D_region ?_
        first
          | refine DL_c (op_ldB _ inferInstance rfl rfl (rfl : _ = some (AV.ptr _ _))) ?_
          | refine DL_c (op_ldR _ inferInstance rfl rfl (by first | rfl | exact isl_get _ _ (by omega) | exact bsl_get _ _ (by omega) | assumption | exact isl_get _ _ (by omega) | exact nrows_get _ _ (by omega)) rfl) ?_
        first
          | refine DL_c (op_mkI _ Try.underlying116 rfl (rfl : _ = AV.ptr _ _)) ?_
          | refine DL_c (op_mkI _ Try.underlying116 rfl (rfl : _ = AV.fp _ _)) ?_
          | refine DL_c (op_mkI _ Try.underlying116 rfl (rfl : _ = AV.v (.pointer _))) ?_
        refine DL_c (op_callR inferInstance [((0, 9), (47, 0)), ((1, 9), (46, 0))] ?_ (heapPop_spec y.2.1.length y.2.1 rfl (by omega) (by omega) hy.t.hp) ⟨⟨rfl, ⟨_, rfl, .box rfl (lv_cons (lvRr rfl rfl) lv_nil)⟩, rfl⟩, ⟨rfl, ⟨_, rfl, .rowE rfl⟩, rfl⟩, trivial⟩ ⟨rfl, rfl, trivial⟩ (by kernel_rfl)) ?_
        · repeat' (first | exact argsR_nil | refine argsR_cons ?_ ?_ | exact Lv.v | exact lvI (by assumption) | exact lvI (by omega) | exact Lv.sl | exact Lv.fp | exact Lv.nil | exact lvRr rfl rfl | exact lvPr rfl | refine Lv.agg rfl ?_ | refine Lv.fn rfl ?_ rfl ?_ | refine Lv.ifc ?_ | exact lv_nil | refine lv_cons ?_ ?_)
        refine DL_c (op_tA _ Try.underlying3 rfl (rfl : _ = AV.ifc _ (AV.v (.int _ _)))) ?_
        refine DL_c (op_as _ (rfl : _ = AV.v (.int _ _))) ?_
        refine DL_nil (hK29 _ ?_)
        clear hK29; try clear K29
        refine D_seq fun K30 hK30 => ?_
        refine D_region ?_
        refine DL_c (op_mv _ (rfl : _ = AV.ref _ _ _)) ?_
        refine DL_c (op_mv _ (rfl : _ = AV.v (.int _ _))) ?_
        refine DL_c (op_bsF _ _ inferInstance rfl (by rfl) (by simp <;> rfl) (by decide) rfl) ?_
        refine DL_c (op_ap (74, 0) _ _ inferInstance rfl rfl (by first | rfl | omega | (simp only [isl_len, bsl_len, psl_len, mrows_len, nsl_len, ws_len, List.length_map, nxL_len, nxM_len, wcn_len]; omega) | (simp; done) | (simp; omega)) (by first | exact .nil | (refine .sl ?_; first | (simp [isl]; done) | (simp [isl]; omega)) | (refine .ref rfl rfl ?_; first | (simp; done) | (simp; omega))) (by omega) rfl (rfl) (rfl)) ?_
        refine DL_c (op_as _ (rfl : _ = AV.ref _ _ _)) ?_
        refine DL_nil (hK30 _ ?_)
        clear hK30; try clear K30
        refine D_seq fun K31 hK31 => ?_
        refine D_region ?_
        refine DL_c (op_mv _ (rfl : _ = AV.sl _ _)) ?_
        refine DL_c (op_mv _ (rfl : _ = AV.v (.int _ _))) ?_
        refine DL_c (op_ixS _ _ inferInstance rfl rfl a hae (by omega) (by omega) (Nat.mul_one _)) ?_
        refine DL_c (op_ldF _ inferInstance rfl (by exact nrows_get _ _ (by omega)) rfl) ?_
        first
          | refine DL_c (op_lenS _ inferInstance rfl) ?_
          | refine DL_c (op_lenR _ inferInstance rfl rfl) ?_
          | refine DL_c (op_lenN _ inferInstance rfl) ?_
          | refine DL_c (op_lenB _ inferInstance rfl rfl) ?_
          | refine DL_c (op_lenZ _ inferInstance rfl) ?_
        refine DL_c (op_mv _ (rfl : _ = AV.v (.int _ _))) ?_
        refine DL_nil (hK31 _ ?_)
        clear hK31; try clear K31
        refine D_block ?_
        refine D_loopL (α := Nat × List Int × List Int) (fun x => x.1 ≤ (S.getD a []).length ∧ TI n S (y.1 ++ [a]) x.2.1 x.2.2 ((S.getD a []).drop x.1)) 104 [(0, _), (6, _), (7, _), (12, _), (13, _), (16, _), (17, _), (78, _), (79, _)] [((12, 0), _), ((74, 0), _)] (fun x => [(80, .v (.int .i64 (x.1 : Int)))]) (fun x => [((47, 0), .box 117 [.ref (46, 0) 0 x.2.1.length]), ((46, 0), .row 3 1 (isl x.2.1)), ((25, 0), .row 3 1 (isl x.2.2))]) [] [] (fun x => (S.getD a []).length - x.1) (0, hpop y.2.1, y.2.2) ?_ (by
          refine Le.mkJ [] [] rfl ?_ ?_ trivial trivial ?_
          · exact ⟨(iV rfl), (iS rfl), (iR rfl), (iP rfl), (iN rfl), (iR rfl), (iN rfl), (by first | exact iS rfl | exact iR rfl | exact iV rfl | exact iZ rfl | exact iD rfl), (iV rfl), (lvI (by first | rfl | omega | (rw [hpl]) | (simp; done) | (simp; omega) | assumption)), trivial⟩
          · exact ⟨(obE rfl rfl rfl), (obE rfl rfl rfl), (obB rfl rfl rfl rfl (lv_cons (lvRr rfl (by first | rfl | omega | (rw [hpl]) | (simp; done) | (simp; omega) | assumption)) lv_nil)), (obR rfl rfl rfl (by first | rfl | omega | (rw [hpl]) | (simp; done) | (simp; omega) | assumption)), (obR rfl rfl rfl (by first | rfl | omega | (rw [hpl]) | (simp; done) | (simp; omega) | assumption)), trivial⟩
          · kernel_rfl) ?_
        · exact ⟨Nat.zero_le _, hT0⟩
        intro x hx
        obtain ⟨hj, hT⟩ := hx
        have hxh := hT.hlen
        have hxw := hT.wl
        refine D_seq fun K32 hK32 => ?_
        refine D_region ?_
        first
          | refine DL_c (op_lss _ _ rfl rfl (by assumption)) ?_
          | refine DL_c (op_lss _ _ rfl rfl rfl) ?_
        refine DL_nil (hK32 _ ?_)
        clear hK32; try clear K32
        refine D_seq fun K33 hK33 => ?_
        refine D_splitC rfl (fun hc81 => ?_) (fun hc81 => ?_)
        · skip
          have hbm := hsb a han ((S.getD a []).getD x.1 0) (getD_memI (by omega))
          obtain ⟨b, hbe⟩ := Int.eq_ofNat_of_zero_le hbm.1
          have hbn : b < n := by omega
          have hT2 : TI n S (y.1 ++ [a]) x.2.1 x.2.2 ((b : Int) :: (S.getD a []).drop (x.1 + 1)) := by
            have := hT
            rw [drop1 (by omega), hbe] at this
            exact this
          have hps := hT2.pos
          have hwb := hT.wbd hbn
          have hdl : ((S.getD a []).drop x.1).length ≤ 12 := by rw [List.length_drop]; omega
          refine D_skip (hK33 _ ?_)
          clear hK33; try clear K33
          refine D_seq fun K34 hK34 => ?_
          refine D_block ?_
          refine D_seq fun K35 hK35 => ?_
          refine D_region ?_
          first
            | refine DL_c (op_ixS _ _ inferInstance rfl rfl _ rfl (by omega) (by first | assumption | decide | (simp only [isl_len, bsl_len, psl_len, mrows_len, nsl_len, ws_len, List.length_map, nxL_len, nxM_len, wcn_len]; omega) | (simp; done) | (simp; omega) | (simp [isl, bsl]; omega)) (by first | exact Nat.mul_one _ | rfl | omega)) ?_
            | refine DL_c (op_ixS _ _ inferInstance rfl rfl (Int.toNat _) (Int.toNat_of_nonneg (by omega)).symm (by omega) (by first | assumption | decide | (simp only [isl_len, bsl_len, psl_len, mrows_len, nsl_len, ws_len, List.length_map, nxL_len, nxM_len, wcn_len]; omega) | (simp; done) | (simp; omega) | (simp [isl, bsl]; omega)) (by first | exact Nat.mul_one _ | rfl | omega)) ?_
            | refine DL_c (op_ixR _ _ inferInstance rfl rfl rfl _ rfl (by omega) (by first | exact (Nat.zero_add _).trans (Nat.mul_one _) | exact Nat.zero_add _ | rfl | omega)) ?_
            | refine DL_c (op_ixR _ _ inferInstance rfl rfl rfl (Int.toNat _) (Int.toNat_of_nonneg (by omega)).symm (by omega) (by first | exact (Nat.zero_add _).trans (Nat.mul_one _) | exact Nat.zero_add _ | rfl | omega)) ?_
            | refine DL_c (op_ixB _ _ inferInstance rfl rfl rfl _ rfl (by omega) (by first | exact (Nat.zero_add _).trans (Nat.mul_one _) | exact Nat.zero_add _ | rfl | omega)) ?_
            | refine DL_c (op_ixB _ _ inferInstance rfl rfl rfl (Int.toNat _) (Int.toNat_of_nonneg (by omega)).symm (by omega) (by first | exact (Nat.zero_add _).trans (Nat.mul_one _) | exact Nat.zero_add _ | rfl | omega)) ?_
          first
            | refine DL_c (op_ldB _ inferInstance rfl rfl (rfl : _ = some (AV.v (.int _ _)))) ?_
            | refine DL_c (op_ldR _ inferInstance rfl rfl (by first | rfl | exact isl_get _ _ (by omega) | exact bsl_get _ _ (by omega) | assumption | exact isl_get _ _ (by omega) | exact nrows_get _ _ (by omega)) rfl) ?_
            | refine DL_c (op_ldF _ inferInstance rfl (by first | rfl | exact isl_get _ _ (by omega) | exact bsl_get _ _ (by omega) | assumption | exact isl_get _ _ (by omega) | exact nrows_get _ _ (by omega)) rfl) ?_
          refine DL_c (op_as _ (rfl : _ = AV.v (.int _ _))) ?_
          refine DL_nil (hK35 _ ?_)
          clear hK35; try clear K35
          refine D_seq fun K36 hK36 => ?_
          refine D_region ?_
          refine DL_c (op_mv _ (rfl : _ = AV.ref _ _ _)) ?_
          refine DL_c (op_mv _ (rfl : _ = AV.v (.int _ _))) ?_
          refine DL_c (op_ixR _ _ inferInstance rfl rfl rfl b hbe (by omega) (by exact (Nat.zero_add _).trans (Nat.mul_one _))) ?_
          refine DL_c (op_ldR _ inferInstance rfl rfl (by exact isl_get _ _ (by omega)) rfl) ?_
          first
            | refine DL_c (op_sub _ _ rfl rfl (i64w (by omega))) ?_
            | refine DL_c (op_sub _ _ rfl rfl rfl) ?_
          refine DL_c (op_ixR _ _ inferInstance rfl rfl rfl b hbe (by omega) (by exact (Nat.zero_add _).trans (Nat.mul_one _))) ?_
          refine DL_c (op_stR _ _ inferInstance rfl rfl rfl rfl rfl (by simp; omega) (isl_put _ _ _ (by omega))) ?_
          refine DL_nil (hK36 _ ?_)
          clear hK36; try clear K36
          refine D_seq fun K37 hK37 => ?_
          refine D_region ?_
          refine DL_c (op_mv _ (rfl : _ = AV.ref _ _ _)) ?_
          refine DL_c (op_mv _ (rfl : _ = AV.v (.int _ _))) ?_
          refine DL_c (op_ixR _ _ inferInstance rfl rfl rfl b hbe (by omega) (by exact (Nat.zero_add _).trans (Nat.mul_one _))) ?_
          refine DL_c (op_ldR _ inferInstance rfl rfl (by exact isl_get_set _ _ _ (by omega)) rfl) ?_
          first
            | refine DL_c (op_eql _ _ rfl rfl (by assumption)) ?_
            | refine DL_c (op_eql _ _ rfl rfl rfl) ?_
          refine DL_nil (hK37 _ ?_)
          clear hK37; try clear K37
          refine D_splitC rfl (fun hc94 => ?_) (fun hc94 => ?_)
          · skip
            refine D_le (σ' := mkStI 104 [(0, _), (6, _), (7, _), (12, _), (13, _), (16, _), (17, _), (20, _), (78, _), (79, _), (80, _)] [((12, 0), _), ((74, 0), _), ((47, 0), _), ((46, 0), _), ((25, 0), _)] [] []) (by
              refine Le.mkJ [] [] rfl ?_ ?_ trivial trivial ?_
              · exact ⟨(iV rfl), (iS rfl), (iR rfl), (iP rfl), (iN rfl), (iR rfl), (iN rfl), (iV rfl), (by first | exact iS rfl | exact iR rfl | exact iV rfl | exact iZ rfl | exact iD rfl), (iV rfl), (iV rfl), trivial⟩
              · exact ⟨(obE rfl rfl rfl), (obE rfl rfl rfl), (obE rfl rfl rfl), (obE rfl rfl rfl), (obE rfl rfl rfl), trivial⟩
              · kernel_rfl) ?_
            refine D_region ?_
            refine DL_c (op_mv _ (rfl : _ = AV.fn _ _ _)) ?_
            refine DL_c (op_mv _ (rfl : _ = AV.v (.int _ _))) ?_
            refine DL_c (op_callRV rfl inferInstance [((0, 9), (47, 0)), ((1, 9), (46, 0)), ((2, 9), (12, 0)), ((1, 8), (50, 0))] ?_ (topo1_spec x.2.1.length x.2.1 rfl (by omega) b) ⟨⟨rfl, ⟨_, rfl, .box rfl (lv_cons (lvRr rfl rfl) lv_nil)⟩, rfl⟩, ⟨rfl, ⟨_, rfl, .rowE rfl⟩, rfl⟩, ⟨rfl, ⟨_, rfl, .box rfl (lv_cons (lvPr rfl) lv_nil)⟩, rfl⟩, trivial⟩ ⟨rfl, rfl, rfl, trivial⟩ (by kernel_rfl)) ?_
            · repeat' (first | exact argsR_nil | refine argsR_cons ?_ ?_ | exact Lv.v | exact lvI (by assumption) | exact lvI (by omega) | exact Lv.sl | exact Lv.fp | exact Lv.nil | exact lvRr rfl rfl | exact lvPr rfl | refine Lv.agg rfl ?_ | refine Lv.fn rfl ?_ rfl ?_ | refine Lv.ifc ?_ | exact lv_nil | refine lv_cons ?_ ?_)
            refine DL_nil (hK34 _ ?_)
            clear hK34; try clear K34
            refine D_region ?_
            first
              | refine DL_c (op_add _ _ rfl rfl (i64w (by omega))) ?_
              | refine DL_c (op_add _ _ rfl rfl rfl) ?_
            refine DL_c (op_mv _ (rfl : _ = AV.v (.int _ _))) ?_
            refine DL_nil ?_
            refine ⟨(x.1 + 1, hpush x.2.1 b, x.2.2.set b (x.2.2.getD b 0 - 1)), ?_, ?_, ?_⟩
            · exact ⟨by simp only; omega, hT2.push hc94⟩
            · skip
              refine Le.mkJ [((46, 0), (50, 0))] [] rfl ?_ ?_ trivial trivial ?_
              · exact ⟨(by repeat' (first | exact Lv.v | exact Lv.sl | exact Lv.fp | exact lvRr (id := (12, 0)) rfl rfl | exact lvPr (id := (12, 0)) rfl | exact lvRr (id := (74, 0)) rfl rfl | exact lvPr (id := (74, 0)) rfl | exact lvRr (id := (47, 0)) rfl rfl | exact lvPr (id := (47, 0)) rfl | exact lvRr (id := (25, 0)) rfl rfl | exact lvPr (id := (25, 0)) rfl | exact lvRr (id := (46, 0)) rfl rfl | exact lvPr (id := (46, 0)) rfl | exact lvRr rfl rfl | exact lvPr rfl | exact Lv.mp | exact Lv.nil | exact Lv.z | exact Lv.dead | refine Lv.agg rfl ?_ | refine Lv.fn rfl ?_ rfl ?_ | refine Lv.tup rfl ?_ | refine Lv.ifc ?_ | exact lv_nil | refine lv_cons ?_ ?_)), (by repeat' (first | exact Lv.v | exact Lv.sl | exact Lv.fp | exact lvRr (id := (12, 0)) rfl rfl | exact lvPr (id := (12, 0)) rfl | exact lvRr (id := (74, 0)) rfl rfl | exact lvPr (id := (74, 0)) rfl | exact lvRr (id := (47, 0)) rfl rfl | exact lvPr (id := (47, 0)) rfl | exact lvRr (id := (25, 0)) rfl rfl | exact lvPr (id := (25, 0)) rfl | exact lvRr (id := (46, 0)) rfl rfl | exact lvPr (id := (46, 0)) rfl | exact lvRr rfl rfl | exact lvPr rfl | exact Lv.mp | exact Lv.nil | exact Lv.z | exact Lv.dead | refine Lv.agg rfl ?_ | refine Lv.fn rfl ?_ rfl ?_ | refine Lv.tup rfl ?_ | refine Lv.ifc ?_ | exact lv_nil | refine lv_cons ?_ ?_)), (lvRr (id := (25, 0)) rfl rfl), (lvPr (id := (12, 0)) rfl), (by repeat' (first | exact Lv.v | exact Lv.sl | exact Lv.fp | exact lvRr (id := (12, 0)) rfl rfl | exact lvPr (id := (12, 0)) rfl | exact lvRr (id := (74, 0)) rfl rfl | exact lvPr (id := (74, 0)) rfl | exact lvRr (id := (47, 0)) rfl rfl | exact lvPr (id := (47, 0)) rfl | exact lvRr (id := (25, 0)) rfl rfl | exact lvPr (id := (25, 0)) rfl | exact lvRr (id := (46, 0)) rfl rfl | exact lvPr (id := (46, 0)) rfl | exact lvRr rfl rfl | exact lvPr rfl | exact Lv.mp | exact Lv.nil | exact Lv.z | exact Lv.dead | refine Lv.agg rfl ?_ | refine Lv.fn rfl ?_ rfl ?_ | refine Lv.tup rfl ?_ | refine Lv.ifc ?_ | exact lv_nil | refine lv_cons ?_ ?_)), (lvRr (id := (74, 0)) rfl rfl), (by repeat' (first | exact Lv.v | exact Lv.sl | exact Lv.fp | exact lvRr (id := (12, 0)) rfl rfl | exact lvPr (id := (12, 0)) rfl | exact lvRr (id := (74, 0)) rfl rfl | exact lvPr (id := (74, 0)) rfl | exact lvRr (id := (47, 0)) rfl rfl | exact lvPr (id := (47, 0)) rfl | exact lvRr (id := (25, 0)) rfl rfl | exact lvPr (id := (25, 0)) rfl | exact lvRr (id := (46, 0)) rfl rfl | exact lvPr (id := (46, 0)) rfl | exact lvRr rfl rfl | exact lvPr rfl | exact Lv.mp | exact Lv.nil | exact Lv.z | exact Lv.dead | refine Lv.agg rfl ?_ | refine Lv.fn rfl ?_ rfl ?_ | refine Lv.tup rfl ?_ | refine Lv.ifc ?_ | exact lv_nil | refine lv_cons ?_ ?_)), (by repeat' (first | exact Lv.v | exact Lv.sl | exact Lv.fp | exact lvRr (id := (12, 0)) rfl rfl | exact lvPr (id := (12, 0)) rfl | exact lvRr (id := (74, 0)) rfl rfl | exact lvPr (id := (74, 0)) rfl | exact lvRr (id := (47, 0)) rfl rfl | exact lvPr (id := (47, 0)) rfl | exact lvRr (id := (25, 0)) rfl rfl | exact lvPr (id := (25, 0)) rfl | exact lvRr (id := (46, 0)) rfl rfl | exact lvPr (id := (46, 0)) rfl | exact lvRr rfl rfl | exact lvPr rfl | exact Lv.mp | exact Lv.nil | exact Lv.z | exact Lv.dead | refine Lv.agg rfl ?_ | refine Lv.fn rfl ?_ rfl ?_ | refine Lv.tup rfl ?_ | refine Lv.ifc ?_ | exact lv_nil | refine lv_cons ?_ ?_)), (by repeat' (first | exact Lv.v | exact Lv.sl | exact Lv.fp | exact lvRr (id := (12, 0)) rfl rfl | exact lvPr (id := (12, 0)) rfl | exact lvRr (id := (74, 0)) rfl rfl | exact lvPr (id := (74, 0)) rfl | exact lvRr (id := (47, 0)) rfl rfl | exact lvPr (id := (47, 0)) rfl | exact lvRr (id := (25, 0)) rfl rfl | exact lvPr (id := (25, 0)) rfl | exact lvRr (id := (46, 0)) rfl rfl | exact lvPr (id := (46, 0)) rfl | exact lvRr rfl rfl | exact lvPr rfl | exact Lv.mp | exact Lv.nil | exact Lv.z | exact Lv.dead | refine Lv.agg rfl ?_ | refine Lv.fn rfl ?_ rfl ?_ | refine Lv.tup rfl ?_ | refine Lv.ifc ?_ | exact lv_nil | refine lv_cons ?_ ?_)), (lvI (by first | rfl | omega | (first | rfl | (rw [hpush_len hT.hp]; done)) | (simp; done) | (simp; omega) | assumption)), trivial⟩
              · exact ⟨(obB rfl rfl rfl rfl (by repeat' (first | exact Lv.v | exact Lv.sl | exact Lv.fp | exact lvRr (id := (12, 0)) rfl rfl | exact lvPr (id := (12, 0)) rfl | exact lvRr (id := (74, 0)) rfl rfl | exact lvPr (id := (74, 0)) rfl | exact lvRr (id := (47, 0)) rfl rfl | exact lvPr (id := (47, 0)) rfl | exact lvRr (id := (25, 0)) rfl rfl | exact lvPr (id := (25, 0)) rfl | exact lvRr (id := (46, 0)) rfl rfl | exact lvPr (id := (46, 0)) rfl | exact lvRr rfl rfl | exact lvPr rfl | exact Lv.mp | exact Lv.nil | exact Lv.z | exact Lv.dead | refine Lv.agg rfl ?_ | refine Lv.fn rfl ?_ rfl ?_ | refine Lv.tup rfl ?_ | refine Lv.ifc ?_ | exact lv_nil | refine lv_cons ?_ ?_))), (obR rfl rfl rfl rfl), (obB rfl rfl rfl rfl (lv_cons (lvRr rfl (by first | rfl | omega | (first | rfl | (rw [hpush_len hT.hp]; done)) | (simp; done) | (simp; omega) | assumption)) lv_nil)), (obR rfl rfl rfl (by first | rfl | omega | (first | rfl | (rw [hpush_len hT.hp]; done)) | (simp; done) | (simp; omega) | assumption)), (obR rfl rfl rfl (by first | rfl | omega | (first | rfl | (rw [hpush_len hT.hp]; done)) | (simp; done) | (simp; omega) | assumption)), trivial⟩
              · kernel_rfl
            · simp only; omega
          · skip
            refine D_skip (hK34 _ ?_)
            clear hK34; try clear K34
            refine D_le (σ' := mkStI 104 [(0, _), (6, _), (7, _), (12, _), (13, _), (16, _), (17, _), (78, _), (79, _), (80, _)] [((12, 0), _), ((74, 0), _), ((47, 0), _), ((46, 0), _), ((25, 0), _)] [] []) (by
              refine Le.mkJ [] [] rfl ?_ ?_ trivial trivial ?_
              · exact ⟨(iV rfl), (iS rfl), (iR rfl), (iP rfl), (iN rfl), (iR rfl), (iN rfl), (by first | exact iS rfl | exact iR rfl | exact iV rfl | exact iZ rfl | exact iD rfl), (iV rfl), (iV rfl), trivial⟩
              · exact ⟨(obE rfl rfl rfl), (obE rfl rfl rfl), (obE rfl rfl rfl), (obE rfl rfl rfl), (obE rfl rfl rfl), trivial⟩
              · kernel_rfl) ?_
            refine D_region ?_
            first
              | refine DL_c (op_add _ _ rfl rfl (i64w (by omega))) ?_
              | refine DL_c (op_add _ _ rfl rfl rfl) ?_
            refine DL_c (op_mv _ (rfl : _ = AV.v (.int _ _))) ?_
            refine DL_nil ?_
            refine ⟨(x.1 + 1, x.2.1, x.2.2.set b (x.2.2.getD b 0 - 1)), ?_, ?_, ?_⟩
            · exact ⟨by simp only; omega, hT2.more hc94⟩
            · skip
              refine Le.mkJ [] [] rfl ?_ ?_ trivial trivial ?_
              · exact ⟨(iV rfl), (iS rfl), (iR rfl), (iP rfl), (iN rfl), (iR rfl), (iN rfl), (by first | exact iS rfl | exact iR rfl | exact iV rfl | exact iZ rfl | exact iD rfl), (iV rfl), (lvI (by first | rfl | omega | (simp; done) | (simp; omega) | assumption)), trivial⟩
              · exact ⟨(obE rfl rfl rfl), (obE rfl rfl rfl), (obB rfl rfl rfl rfl (lv_cons (lvRr rfl (by first | rfl | omega | (simp; done) | (simp; omega) | assumption)) lv_nil)), (obR rfl rfl rfl (by first | rfl | omega | (simp; done) | (simp; omega) | assumption)), (obR rfl rfl rfl (by first | rfl | omega | (simp; done) | (simp; omega) | assumption)), trivial⟩
              · kernel_rfl
            · simp only; omega
        · skip
          have hjl : x.1 = (S.getD a []).length := by omega
          have hTf : TI n S (y.1 ++ [a]) x.2.1 x.2.2 [] := by
            have := hT
            rw [hjl, List.drop_length] at this
            exact this
          refine D_exit ?_
          refine id ?_
          refine ⟨(y.1 ++ [a], x.2.1, x.2.2), ?_, ?_, ?_⟩
          · exact ⟨hTf, hk0⟩
          · skip
            refine Le.mkJ [((16, 0), (74, 0))] [] rfl ?_ ?_ trivial trivial ?_
            · exact ⟨(by repeat' (first | exact Lv.v | exact Lv.sl | exact Lv.fp | exact lvRr (id := (12, 0)) rfl rfl | exact lvPr (id := (12, 0)) rfl | exact lvRr (id := (16, 0)) rfl rfl | exact lvPr (id := (16, 0)) rfl | exact lvRr (id := (47, 0)) rfl rfl | exact lvPr (id := (47, 0)) rfl | exact lvRr (id := (46, 0)) rfl rfl | exact lvPr (id := (46, 0)) rfl | exact lvRr (id := (25, 0)) rfl rfl | exact lvPr (id := (25, 0)) rfl | exact lvRr rfl rfl | exact lvPr rfl | exact Lv.mp | exact Lv.nil | exact Lv.z | exact Lv.dead | refine Lv.agg rfl ?_ | refine Lv.fn rfl ?_ rfl ?_ | refine Lv.tup rfl ?_ | refine Lv.ifc ?_ | exact lv_nil | refine lv_cons ?_ ?_)), (by repeat' (first | exact Lv.v | exact Lv.sl | exact Lv.fp | exact lvRr (id := (12, 0)) rfl rfl | exact lvPr (id := (12, 0)) rfl | exact lvRr (id := (16, 0)) rfl rfl | exact lvPr (id := (16, 0)) rfl | exact lvRr (id := (47, 0)) rfl rfl | exact lvPr (id := (47, 0)) rfl | exact lvRr (id := (46, 0)) rfl rfl | exact lvPr (id := (46, 0)) rfl | exact lvRr (id := (25, 0)) rfl rfl | exact lvPr (id := (25, 0)) rfl | exact lvRr rfl rfl | exact lvPr rfl | exact Lv.mp | exact Lv.nil | exact Lv.z | exact Lv.dead | refine Lv.agg rfl ?_ | refine Lv.fn rfl ?_ rfl ?_ | refine Lv.tup rfl ?_ | refine Lv.ifc ?_ | exact lv_nil | refine lv_cons ?_ ?_)), (lvRr (id := (25, 0)) rfl rfl), (lvPr (id := (12, 0)) rfl), (by repeat' (first | exact Lv.v | exact Lv.sl | exact Lv.fp | exact lvRr (id := (12, 0)) rfl rfl | exact lvPr (id := (12, 0)) rfl | exact lvRr (id := (16, 0)) rfl rfl | exact lvPr (id := (16, 0)) rfl | exact lvRr (id := (47, 0)) rfl rfl | exact lvPr (id := (47, 0)) rfl | exact lvRr (id := (46, 0)) rfl rfl | exact lvPr (id := (46, 0)) rfl | exact lvRr (id := (25, 0)) rfl rfl | exact lvPr (id := (25, 0)) rfl | exact lvRr rfl rfl | exact lvPr rfl | exact Lv.mp | exact Lv.nil | exact Lv.z | exact Lv.dead | refine Lv.agg rfl ?_ | refine Lv.fn rfl ?_ rfl ?_ | refine Lv.tup rfl ?_ | refine Lv.ifc ?_ | exact lv_nil | refine lv_cons ?_ ?_)), (by repeat' (first | exact Lv.v | exact Lv.sl | exact Lv.fp | exact lvRr (id := (12, 0)) rfl rfl | exact lvPr (id := (12, 0)) rfl | exact lvRr (id := (16, 0)) rfl rfl | exact lvPr (id := (16, 0)) rfl | exact lvRr (id := (47, 0)) rfl rfl | exact lvPr (id := (47, 0)) rfl | exact lvRr (id := (46, 0)) rfl rfl | exact lvPr (id := (46, 0)) rfl | exact lvRr (id := (25, 0)) rfl rfl | exact lvPr (id := (25, 0)) rfl | exact lvRr rfl rfl | exact lvPr rfl | exact Lv.mp | exact Lv.nil | exact Lv.z | exact Lv.dead | refine Lv.agg rfl ?_ | refine Lv.fn rfl ?_ rfl ?_ | refine Lv.tup rfl ?_ | refine Lv.ifc ?_ | exact lv_nil | refine lv_cons ?_ ?_)), (lvRr rfl (by first | rfl | omega | (first | (simp only [List.length_append]; rfl) | (simp only [← nsl_append, hae]; rfl)) | (simp; done) | (simp; omega) | assumption)), trivial⟩
            · exact ⟨(obB rfl rfl rfl rfl (by repeat' (first | exact Lv.v | exact Lv.sl | exact Lv.fp | exact lvRr (id := (12, 0)) rfl rfl | exact lvPr (id := (12, 0)) rfl | exact lvRr (id := (16, 0)) rfl rfl | exact lvPr (id := (16, 0)) rfl | exact lvRr (id := (47, 0)) rfl rfl | exact lvPr (id := (47, 0)) rfl | exact lvRr (id := (46, 0)) rfl rfl | exact lvPr (id := (46, 0)) rfl | exact lvRr (id := (25, 0)) rfl rfl | exact lvPr (id := (25, 0)) rfl | exact lvRr rfl rfl | exact lvPr rfl | exact Lv.mp | exact Lv.nil | exact Lv.z | exact Lv.dead | refine Lv.agg rfl ?_ | refine Lv.fn rfl ?_ rfl ?_ | refine Lv.tup rfl ?_ | refine Lv.ifc ?_ | exact lv_nil | refine lv_cons ?_ ?_))), (obR rfl rfl rfl (by first | rfl | omega | (first | (simp only [List.length_append]; rfl) | (simp only [← nsl_append, hae]; rfl)) | (simp; done) | (simp; omega) | assumption)), (obB rfl rfl rfl rfl (lv_cons (lvRr rfl (by first | rfl | omega | (first | (simp only [List.length_append]; rfl) | (simp only [← nsl_append, hae]; rfl)) | (simp; done) | (simp; omega) | assumption)) lv_nil)), (obR rfl rfl rfl (by first | rfl | omega | (first | (simp only [List.length_append]; rfl) | (simp only [← nsl_append, hae]; rfl)) | (simp; done) | (simp; omega) | assumption)), (obR rfl rfl rfl (by first | rfl | omega | (first | (simp only [List.length_append]; rfl) | (simp only [← nsl_append, hae]; rfl)) | (simp; done) | (simp; omega) | assumption)), trivial⟩
            · kernel_rfl
          · simp only [List.length_append, List.length_singleton]; omega
      · skip
        have hlast := hy.last (by omega)
        refine D_exit ?_
        refine id (hK26 _ ?_)
        clear hK26; try clear K26
        refine D_seq fun K38 hK38 => ?_
        refine D_seq fun K39 hK39 => ?_
        refine D_region ?_
        refine DL_c (op_mv _ (rfl : _ = AV.ref _ _ _)) ?_
        first
          | refine DL_c (op_lenR _ inferInstance rfl rfl) ?_
          | refine DL_c (op_lenB _ inferInstance rfl rfl) ?_
        refine DL_c (op_mv _ (rfl : _ = AV.v (.int _ _))) ?_
        first
          | refine DL_c (op_lss _ _ rfl rfl (by assumption)) ?_
          | refine DL_c (op_lss _ _ rfl rfl rfl) ?_
        refine DL_nil (hK39 _ ?_)
        clear hK39; try clear K39
        refine D_splitC rfl (fun hc102 => ?_) (fun hc102 => ?_)
        · skip
          refine D_seq fun K40 hK40 => ?_
          refine D_region ?_
          first
            | refine DL_c (op_as _ (rfl : _ = AV.sl _ _)) ?_
            | refine DL_c (op_as _ (rfl : _ = AV.ref _ _ _)) ?_
            | refine DL_c (op_as _ (rfl : _ = AV.v (.slice _ _ _))) ?_
            | refine DL_c (op_as _ (rfl : _ = AV.z)) ?_
          refine DL_c (op_as _ (rfl : _ = AV.v (.bool _))) ?_
          refine DL_nil (hK40 _ ?_)
          clear hK40; try clear K40
          refine D_ret ?_
          rw [show topoR n S = .tup [.v (.slice none 0 0), .v (.bool false)] from if_pos (by rw [← hlast]; omega)]
          exact ret2 (.inr rfl) rfl (.tmp (rfl : _ = AV.v _)) (.tmp (rfl : _ = AV.v _)) (Le.out [] [] (.tup rfl (lv_cons .v (lv_cons .v lv_nil))) rfl rfl rfl trivial trivial)
        · skip
          have hyl : y.1.length = n := by omega
          have hfz : ((nsl y.1).drop 0).take (y.1.length * 1) = isl (y.1.map fun (x : Nat) => (x : Int)) := by rw [List.drop_zero, Nat.mul_one, nsl]; exact List.take_of_length_le (by rw [isl_len, List.length_map]; omega)
          have hfl : 0 + y.1.length * 1 ≤ (nsl y.1).length := by rw [nsl, isl_len, List.length_map]; omega
          refine D_skip (hK38 _ ?_)
          clear hK38; try clear K38
          refine D_seq fun K41 hK41 => ?_
          refine D_region ?_
          refine DL_c (op_mv _ (rfl : _ = AV.ref _ _ _)) ?_
          refine DL_c (op_as _ (rfl : _ = AV.ref _ _ _)) ?_
          refine DL_c (op_as _ (rfl : _ = AV.v (.bool _))) ?_
          refine DL_nil (hK41 _ ?_)
          clear hK41; try clear K41
          refine D_ret ?_
          rw [show topoR n S = .tup [.sl y.1.length (isl (y.1.map fun (x : Nat) => (x : Int))), .v (.bool true)] from by unfold topoR; rw [if_neg (by rw [← hlast]; omega), ← hlast, hyl]]
          exact ret2 (.inr rfl) rfl (.tmp (rfl : _ = AV.ref _ _ _)) (.tmp (rfl : _ = AV.v _)) (Le.out [] [(16, 0)] (.tup rfl (lv_cons (.frz rfl rfl hfz hfl) (lv_cons .v lv_nil))) rfl rfl rfl ⟨rfl, trivial⟩ trivial)
end Go.Proofs.Ytkbkmngbenohkaa
