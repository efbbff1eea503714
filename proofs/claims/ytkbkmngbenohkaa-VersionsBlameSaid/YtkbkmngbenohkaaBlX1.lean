/- The law VersionsBlame by the machine. -/
import Derived.Test.YtkbkmngbenohkaaBlW8
import Derived.Test.YtkbkmngbenohkaaBlV6
set_option linter.unusedSimpArgs false
set_option linter.unusedVariables false
namespace Go.Proofs.Ytkbkmngbenohkaa
open Go.RowKit

/-- The graph of a list of parents, as New makes it. -/
theorem newN_spec {n : Nat} {Ps : List (List Int)} (h : Near Ps) (hn : Ps.length = n) :
    Spec Try.prog 58 (inSt [.sl n (nrows Ps)] []) (outSt (.tup [.fp 0 (gra n (parW Ps) (ancW n (edg Ps n 0))), .v (.int .i64 0)]) []) := by
  subst hn
  have h14 := h.n
  have hN := vnew_spec Ps.length Ps rfl (by omega) (fun v => by have := h.rows v; omega) fun hV _ a _ => by
    rw [nxt_edg a Ps.length fun v hv => (hV v hv).1, List.length_map]
    exact Nat.le_trans (filter_few (a := a) (m := 4) _ fun v hp => by
      rw [decide_eq_true_eq] at hp
      by_cases hv : v < Ps.length
      · have := (h.r v hv).1.b _ hp; omega
      · rw [List.getD_eq_getElem?_getD, List.getElem?_eq_none (by omega)] at hp; cases hp) (by decide)
  rw [newV_ok (by omega) h.valid h.acyc] at hN
  exact hN
theorem ancsN_spec {n : Nat} {Ps : List (List Int)} (hPs : Ps.length = n) (hn : n ≤ 64) (P : List Nat) (v : Nat) :
    Spec Try.prog 60 (inSt [.fp 0 (gra n P (ancW n (edg Ps n 0))), .v (.int .i64 (v : Int))] []) (outSt (.sl (upE Ps v).length (nsl (upE Ps v))) []) := by
  subst hPs
  exact ancestors_spec _ P _ (ancW_len _ _) hn (ancW_lt hn _) v
theorem minN_spec {n : Nat} {Ps : List (List Int)} (hG : GG n Ps) (st : List Int) (hst : st.length = n) (v : Nat) :
    Spec Try.prog 59 (inSt [.fp 0 (gra n (parW Ps) (ancW n (edg Ps n 0))), .v (.int .i64 (v : Int)), .sl n (isl st)] []) (outSt (.sl (minL n (edg Ps n 0) st (upE Ps v)).length (blR (minL n (edg Ps n 0) st (upE Ps v)))) []) := by
  obtain ⟨hPs, hn, hV, _, _⟩ := hG
  subst hPs
  exact minimal_spec _ _ _ (parW_pw hV hn) st hst v
theorem hasNN_spec (n : Nat) (l : List Nat) (x : Nat) (hn : l.length = n) (h1 : n ≤ 1000000) :
    Spec Try.prog 42 (inSt [.sl n (nsl l), .v (.int .i64 (x : Int))] []) (outSt (.v (.bool (decide (x ∈ l)))) []) := by
  have h := has_spec n (l.map fun (x : Nat) => (x : Int)) (x : Int) (by simp [hn]) (by omega)
  have e : decide ((x : Int) ∈ l.map fun (x : Nat) => (x : Int)) = decide (x ∈ l) := by
    rw [Bool.eq_iff_iff, decide_eq_true_eq, decide_eq_true_eq, List.mem_map]
    constructor
    · rintro ⟨y, h1, h2⟩
      have : y = x := by omega
      exact this ▸ h1
    · exact fun h => ⟨x, h, rfl⟩
  rw [e] at h
  exact h
theorem minL_len2 (n : Nat) (E : Prs) (st : List Int) (l : List Nat) (i : Nat) : ((minL n E st l).getD i (0, [])).2.length ≤ 1000 := by
  by_cases h : i < (minL n E st l).length
  · rw [(minL_mem (getD_mem' (0, []) h)).2.2]
    have := els_len (susW n E (whr st 2).testBit ((minL n E st l).getD i (0, [])).1)
    omega
  · rw [List.getD_eq_getElem?_getD, List.getElem?_eq_none (by omega)]; exact Nat.zero_le _
theorem getD_filter2 {p : Nat × List Nat → Bool} {l : List (Nat × List Nat)} (h : ∀ b ∈ l, b.2.length ≤ 1000) (i : Nat) : ((l.filter p).getD i (0, [])).2.length ≤ 1000 := by
  by_cases hi : i < (l.filter p).length
  · exact h _ (List.mem_filter.1 (getD_mem' (0, []) hi)).1
  · rw [List.getD_eq_getElem?_getD, List.getElem?_eq_none (by omega)]; exact Nat.zero_le _
def bfst (l : List (Nat × List Nat)) (i : Nat) : List Nat := (l.take i).map (·.1)
theorem bfst_succ {l : List (Nat × List Nat)} {i : Nat} (h : i < l.length) : bfst l (i + 1) = bfst l i ++ [(l.getD i (0, [])).1] := by
  unfold bfst; rw [take1 (0, []) h, List.map_append]; rfl
theorem blame_law (m : Nat) (l : List Int) (hm : l.length = m) (h1 : m ≤ 4611686018427387904) (hr : Rng l) (ms : Nat) (s : List Int) (hms : s.length = ms) (h2 : ms ≤ 4611686018427387904) (hs : Rng s)
    (head other : Int) (hh0 : -9223372036854775808 ≤ head ∧ head ≤ 9223372036854775807) (ho0 : -9223372036854775808 ≤ other ∧ other ≤ 9223372036854775807) :
    Spec Try.prog 13 (inSt [.sl m (isl l), .sl ms (isl s), .v (.int .i64 head), .v (.int .i64 other)] []) (outSt (.v (.bool true)) []) := by
  have hP := par32_spec m l hm h1 hr
  have hN := par32_near l
  obtain ⟨hn1, hn2⟩ := prM_pos l
  have hPn := par32_len l
  generalize par32 l = Ps at hP hN hPn
  generalize prM l = n at hP hPn hn1 hn2
  have hG : GG n Ps := hPn ▸ hN.gg
  have hst := status32_len Ps s false
  have hSt := status_spec n Ps hG ms s hms h2 hs false
  rw [hPn] at hst
  generalize status32 Ps s false = st at hSt hst
  have hn64 : n ≤ 64 := by omega
  obtain ⟨h, hh⟩ := Int.eq_ofNat_of_zero_le (around_lo head n (by omega))
  have hhn : h < n := by have := around_hi head n (by omega); omega
  have hupl := upE_len Ps h
  have hupn : (upE Ps h).Nodup := upE_nodup Ps h
  have hupt : ∀ u ∈ upE Ps h, u < n := fun u hu => upE_lt hG hu
  have hAl := minL_len n (edg Ps n 0) st (upE Ps h)
  have hA2 := fun i => minL_len2 n (edg Ps n 0) st (upE Ps h) i
  have hap := fun (i k : Nat) (hi : i < (minL n (edg Ps n 0) st (upE Ps h)).length) (hk : k < (minL n (edg Ps n 0) st (upE Ps h)).length) (hne : i ≠ k) => blame_apart hPn hn64 hst hupn hupt hi hk hne
  have hhu : h ∈ upE Ps h := (upE_mem (by omega) (by omega)).2 ⟨by omega, .inl rfl⟩
  have hup0 : 0 < (upE Ps h).length := List.length_pos_of_mem hhu
  have hAv : ∀ i, i < (minL n (edg Ps n 0) st (upE Ps h)).length → ((minL n (edg Ps n 0) st (upE Ps h)).getD i (0, [])).1 < n := fun i hi => hupt _ (minL_mem (getD_mem' (0, []) hi)).1
  have hex : ∀ u ∈ upE Ps h, st.getD u 0 = 1 → ∃ w ∈ upE Ps u, w ∈ (minL n (edg Ps n 0) st (upE Ps h)).map (·.1) := fun u hu h1 => by
    subst hPn; exact blame_ex hn64 hN.lt hst hhn hu h1
  have hfl : ∀ v ∈ upE Ps h, minL n (edg Ps n 0) st (upE Ps v) = (minL n (edg Ps n 0) st (upE Ps h)).filter fun b => decide (b.1 ∈ upE Ps v) := fun v hv => by
    have hvn := hupt v hv
    rw [← minL_filter (fun u => decide (u ∈ upE Ps v)), ← upE_filter (by omega) (by omega) (by omega) hv]
  have hminh := minN_spec hG st hst h
  generalize hAL : minL n (edg Ps n 0) st (upE Ps h) = AL at hAl hA2 hap hAv hex hfl hminh
  refine Spec.ofN Try.func13 rfl Try.ntmps13 rfl ?_
  refine D_seq fun K1 hK1 => ?_
  refine D_region ?_
  refine DL_c (op_as _ (rfl : _ = AV.v (.bool _))) ?_
  refine DL_nil (hK1 _ ?_)
  clear hK1; try clear K1
  refine D_seq fun K2 hK2 => ?_
  refine D_region ?_
  refine DL_c (op_mv _ (rfl : _ = AV.sl _ _)) ?_
  refine DL_c (op_callH inferInstance (by repeat' (first | exact argsLv_nil | refine argsLv_cons ?_ ?_ | exact Lv.v | exact lvI (by omega) | exact Lv.sl | exact Lv.fp | exact Lv.nil | refine Lv.agg rfl ?_ | refine Lv.fn rfl ?_ rfl ?_ | exact lv_nil | refine lv_cons ?_ ?_ | exact Lv.z0)) (hP) rfl rfl) ?_
  refine DL_c (op_as _ (rfl : _ = AV.sl _ _)) ?_
  refine DL_nil (hK2 _ ?_)
  clear hK2; try clear K2
  refine D_seq fun K3 hK3 => ?_
  refine D_region ?_
  refine DL_c (op_mv _ (rfl : _ = AV.sl _ _)) ?_
  refine DL_c (op_mv _ (rfl : _ = AV.sl _ _)) ?_
  refine DL_c (op_callH inferInstance (by repeat' (first | exact argsLv_nil | refine argsLv_cons ?_ ?_ | exact Lv.v | exact lvI (by omega) | exact Lv.sl | exact Lv.fp | exact Lv.nil | refine Lv.agg rfl ?_ | refine Lv.fn rfl ?_ rfl ?_ | exact lv_nil | refine lv_cons ?_ ?_ | exact Lv.z0)) (hSt) rfl rfl) ?_
  refine DL_c (op_as _ (rfl : _ = AV.sl _ _)) ?_
  refine DL_nil (hK3 _ ?_)
  clear hK3; try clear K3
  refine D_seq fun K4 hK4 => ?_
  refine D_region ?_
  refine DL_c (op_mv _ (rfl : _ = AV.sl _ _)) ?_
  refine DL_c (op_callH inferInstance (by repeat' (first | exact argsLv_nil | refine argsLv_cons ?_ ?_ | exact Lv.v | exact lvI (by omega) | exact Lv.sl | exact Lv.fp | exact Lv.nil | refine Lv.agg rfl ?_ | refine Lv.fn rfl ?_ rfl ?_ | exact lv_nil | refine lv_cons ?_ ?_ | exact Lv.z0)) (newN_spec hN hPn) rfl rfl) ?_
  refine DL_c (op_mv _ (rfl : _ = AV.tup _)) ?_
  first
    | refine DL_c (op_ext _ rfl (rfl : _ = some (AV.ptr _ _))) ?_
    | refine DL_c (op_ext _ rfl (rfl : _ = some (AV.fp _ _))) ?_
    | refine DL_c (op_ext _ rfl (rfl : _ = some (AV.v (.pointer _)))) ?_
  refine DL_c (op_ext _ rfl (rfl : _ = some (AV.v (.int _ _)))) ?_
  refine DL_c (op_as _ (rfl : _ = AV.fp _ _)) ?_
  refine DL_c (op_as _ (rfl : _ = AV.v (.int _ _))) ?_
  refine DL_nil (hK4 _ ?_)
  clear hK4; try clear K4
  refine D_seq fun K5 hK5 => ?_
  refine D_seq fun K6 hK6 => ?_
  refine D_le (σ' := mkStI 192 [(2, _), (3, _), (9, _), (10, _), (11, _), (12, _)] [] [] []) (by
    refine Le.mkJ [] [] rfl ?_ ?_ trivial trivial ?_
    · exact ⟨(iV rfl), (iV rfl), (iS rfl), (iS rfl), (iF rfl), (iV rfl), trivial⟩
    · exact trivial
    · kernel_rfl) ?_
  refine D_region ?_
  refine DL_c (op_mv _ (rfl : _ = AV.fp _ _)) ?_
  refine DL_c (op_eqN _ _ (by kernel_rfl) (.inr ⟨_, _, rfl⟩) rfl) ?_
  refine DL_c (op_mv _ (rfl : _ = AV.v (.bool _))) ?_
  refine DL_cy rfl rfl (op_mv _ (rfl : _ = AV.v (.int _ _))) ?_
  refine DL_cy rfl rfl (op_neq (r := false) _ _ rfl rfl rfl) ?_
  refine DL_c (op_pick _ _ _ rfl (rfl : _ = AV.v (.bool _))) ?_
  refine DL_nil (hK6 _ ?_)
  clear hK6; try clear K6
  refine D_cF rfl rfl ?_
  refine D_skip (hK5 _ ?_)
  clear hK5; try clear K5
  refine D_seq fun K7 hK7 => ?_
  refine D_region ?_
  refine DL_c (op_mv _ (rfl : _ = AV.v (.int _ _))) ?_
  refine DL_c (op_mv _ (rfl : _ = AV.sl _ _)) ?_
  refine DL_c (op_lenS _ inferInstance rfl) ?_
  refine DL_c (op_callH inferInstance (by repeat' (first | exact argsLv_nil | refine argsLv_cons ?_ ?_ | exact Lv.v | exact lvI (by omega) | exact Lv.sl | exact Lv.fp | exact Lv.nil | refine Lv.agg rfl ?_ | refine Lv.fn rfl ?_ rfl ?_ | exact lv_nil | refine lv_cons ?_ ?_ | exact Lv.z0)) (hh ▸ around_spec head n (by omega) (by omega) hh0.1 hh0.2) rfl rfl) ?_
  refine DL_c (op_as _ (rfl : _ = AV.v (.int _ _))) ?_
  refine DL_nil (hK7 _ ?_)
  clear hK7; try clear K7
  refine D_seq fun K8 hK8 => ?_
  refine D_region ?_
  refine DL_c (op_mv _ (rfl : _ = AV.fp _ _)) ?_
  refine DL_c (op_mv _ (rfl : _ = AV.v (.int _ _))) ?_
  refine DL_c (op_mv _ (rfl : _ = AV.sl _ _)) ?_
  refine DL_c (op_callH inferInstance (by repeat' (first | exact argsLv_nil | refine argsLv_cons ?_ ?_ | exact Lv.v | exact lvI (by omega) | exact Lv.sl | exact Lv.fp | exact Lv.nil | refine Lv.agg rfl ?_ | refine Lv.fn rfl ?_ rfl ?_ | exact lv_nil | refine lv_cons ?_ ?_ | exact Lv.z0)) (hminh) rfl rfl) ?_
  refine DL_c (op_as _ (rfl : _ = AV.sl _ _)) ?_
  refine DL_nil (hK8 _ ?_)
  clear hK8; try clear K8
  refine D_seq fun K9 hK9 => ?_
  refine D_le (σ' := mkStI 192 [(3, _), (10, _), (11, _), (13, _), (14, _)] [] [] []) (by
    refine Le.mkJ [] [] rfl ?_ ?_ trivial trivial ?_
    · exact ⟨(iV rfl), (iS rfl), (iF rfl), (iV rfl), (iS rfl), trivial⟩
    · exact trivial
    · kernel_rfl) ?_
  refine D_region ?_
  refine DL_c (op_asN (15, 0) _ 3 1 rfl rfl) ?_
  refine DL_nil (hK9 _ ?_)
  clear hK9; try clear K9
  refine D_seq fun K10 hK10 => ?_
  refine D_seq fun K11 hK11 => ?_
  refine D_region ?_
  refine DL_c (op_as _ (rfl : _ = AV.v (.int _ _))) ?_
  refine DL_nil (hK11 _ ?_)
  clear hK11; try clear K11
  refine D_block ?_
  refine D_loopL (α := Nat) (fun i => i ≤ AL.length) 192 [(3, _), (10, _), (11, _), (13, _), (14, _)] [] (fun i => [(16, .v (.int .i64 (i : Int))), (15, .ref (15, 0) 0 i)]) (fun i => [((15, 0), .row 3 1 (nsl (bfst AL i)))]) [] [] (fun i => AL.length - i) 0 ?_ (by
    refine Le.mkJ [] [] rfl ?_ ?_ trivial trivial ?_
    · exact ⟨(iV rfl), (iS rfl), (iF rfl), (iV rfl), (iS rfl), (lvI (by first | rfl | omega | (first | (rw [hbs, ← nsl_append]; rfl)) | (simp; done) | (simp; omega) | assumption)), (lvRr rfl (by first | rfl | omega | (first | (rw [hbs, ← nsl_append]; rfl)) | (simp; done) | (simp; omega) | assumption)), trivial⟩
    · exact ⟨(obR rfl rfl rfl (by first | rfl | omega | (first | (rw [hbs, ← nsl_append]; rfl)) | (simp; done) | (simp; omega) | assumption)), trivial⟩
    · kernel_rfl) ?_
  · first | omega | trivial | exact ⟨by omega, by omega⟩
  intro i hi
  have hbl : (bfst AL i).length = i := by simp [bfst]; omega
  refine D_seq fun K12 hK12 => ?_
  refine D_seq fun K13 hK13 => ?_
  refine D_region ?_
  refine DL_c (op_mv _ (rfl : _ = AV.v (.int _ _))) ?_
  refine DL_c (op_mv _ (rfl : _ = AV.sl _ _)) ?_
  refine DL_c (op_lenS _ inferInstance rfl) ?_
  first
    | refine DL_c (op_lss _ _ rfl rfl (by assumption)) ?_
    | refine DL_c (op_lss _ _ rfl rfl rfl) ?_
  refine DL_nil (hK13 _ ?_)
  clear hK13; try clear K13
  refine D_splitC rfl (fun hc54 => ?_) (fun hc54 => ?_)
  · skip
    have hvi := hAv i (by omega)
    have hul := upE_len Ps (AL.getD i (0, [])).1
    have hbs := bfst_succ (l := AL) (i := i) (by omega)
    refine D_skip (hK12 _ ?_)
    clear hK12; try clear K12
    refine D_seq fun K14 hK14 => ?_
    refine D_block ?_
    refine D_seq fun K15 hK15 => ?_
    refine D_region ?_
    refine DL_c (op_mv _ (rfl : _ = AV.fp _ _)) ?_
    refine DL_c (op_mv _ (rfl : _ = AV.sl _ _)) ?_
    refine DL_c (op_mv _ (rfl : _ = AV.v (.int _ _))) ?_
    first
      | refine DL_c (op_ixS _ _ inferInstance rfl rfl _ rfl (by omega) (by first | assumption | decide | (simp only [isl_len, bsl_len, psl_len, mrows_len, nsl_len, ws_len, List.length_map, ul_len, psl_len, isl_len, nrows_len, prL_len, blR_len, stK_len, inh1_len, st0_len, status32_len]; omega) | (simp; done) | (simp; omega) | (simp [isl, bsl]; omega)) (by first | exact Nat.mul_one _ | rfl | omega)) ?_
      | refine DL_c (op_ixS _ _ inferInstance rfl rfl (Int.toNat _) (Int.toNat_of_nonneg (by omega)).symm (by omega) (by first | assumption | decide | (simp only [isl_len, bsl_len, psl_len, mrows_len, nsl_len, ws_len, List.length_map, ul_len, psl_len, isl_len, nrows_len, prL_len, blR_len, stK_len, inh1_len, st0_len, status32_len]; omega) | (simp; done) | (simp; omega) | (simp [isl, bsl]; omega)) (by first | exact Nat.mul_one _ | rfl | omega)) ?_
    first
      | refine DL_c (op_fldP _ inferInstance rfl rfl rfl) ?_
      | refine DL_c (op_fldF _ inferInstance rfl rfl) ?_
    refine DL_c (op_ldF _ inferInstance rfl (by first | rfl | exact isl_get _ _ (by omega) | exact bsl_get _ _ (by omega) | assumption | exact isl_get _ _ (by omega) | exact nsl_get _ _ (by omega) | exact nrows_get _ _ (by omega) | exact blR_get0 _ _ (by omega) | exact blR_get1 _ _ (by omega)) rfl) ?_
    refine DL_c (op_callH inferInstance (by repeat' (first | exact argsLv_nil | refine argsLv_cons ?_ ?_ | exact Lv.v | exact lvI (by omega) | exact Lv.sl | exact Lv.fp | exact Lv.nil | refine Lv.agg rfl ?_ | refine Lv.fn rfl ?_ rfl ?_ | exact lv_nil | refine lv_cons ?_ ?_ | exact Lv.z0)) (ancsN_spec hPn hn64 (parW Ps) (AL.getD i (0, [])).1) rfl rfl) ?_
    refine DL_c (op_as _ (rfl : _ = AV.sl _ _)) ?_
    refine DL_nil (hK15 _ ?_)
    clear hK15; try clear K15
    refine D_seq fun K16 hK16 => ?_
    refine D_seq fun K17 hK17 => ?_
    refine D_region ?_
    refine DL_c (op_as _ (rfl : _ = AV.v (.int _ _))) ?_
    refine DL_nil (hK17 _ ?_)
    clear hK17; try clear K17
    refine D_block ?_
    refine D_loopL (α := Nat) (fun k => k ≤ AL.length) 192 [(3, _), (10, _), (11, _), (13, _), (14, _), (15, _), (16, _), (17, _)] [((15, 0), _)] (fun k => [(18, .v (.int .i64 (k : Int)))]) (fun k => []) [] [] (fun k => AL.length - k) 0 ?_ (by
      refine Le.mkJ [] [] rfl ?_ ?_ trivial trivial ?_
      · exact ⟨(iV rfl), (iS rfl), (iF rfl), (iV rfl), (iS rfl), (iR rfl), (iV rfl), (iS rfl), (lvI (by first | rfl | omega | (simp; done) | (simp; omega) | assumption)), trivial⟩
      · exact ⟨(obE rfl rfl rfl), trivial⟩
      · kernel_rfl) ?_
    · first | omega | trivial | exact ⟨by omega, by omega⟩
    intro k hk
    refine D_seq fun K18 hK18 => ?_
    refine D_seq fun K19 hK19 => ?_
    refine D_region ?_
    refine DL_c (op_mv _ (rfl : _ = AV.v (.int _ _))) ?_
    refine DL_c (op_mv _ (rfl : _ = AV.sl _ _)) ?_
    refine DL_c (op_lenS _ inferInstance rfl) ?_
    first
      | refine DL_c (op_lss _ _ rfl rfl (by assumption)) ?_
      | refine DL_c (op_lss _ _ rfl rfl rfl) ?_
    refine DL_nil (hK19 _ ?_)
    clear hK19; try clear K19
    refine D_splitC rfl (fun hc67 => ?_) (fun hc67 => ?_)
    · skip
      refine D_skip (hK18 _ ?_)
      clear hK18; try clear K18
      refine D_seq fun K20 hK20 => ?_
      refine D_block ?_
      refine D_seq fun K21 hK21 => ?_
      refine D_region ?_
      refine DL_c (op_mv _ (rfl : _ = AV.v (.int _ _))) ?_
      refine DL_c (op_mv _ (rfl : _ = AV.v (.int _ _))) ?_
      first
        | refine DL_c (op_neq _ _ rfl rfl (by assumption)) ?_
        | refine DL_c (op_neq _ _ rfl rfl rfl) ?_
      refine DL_c (op_mv _ (rfl : _ = AV.v (.bool _))) ?_
      refine DL_caseC (fun hg73 => ?_) (fun hg73 => ?_)
      · skip
        refine DL_cy rfl rfl (op_mv _ (rfl : _ = AV.sl _ _)) ?_
        refine DL_cy rfl rfl (op_mv _ (rfl : _ = AV.sl _ _)) ?_
        refine DL_cy rfl rfl (op_mv _ (rfl : _ = AV.v (.int _ _))) ?_
        first
          | refine DL_cy rfl rfl (op_ixS _ _ inferInstance rfl rfl _ rfl (by omega) (by first | assumption | decide | (simp only [isl_len, bsl_len, psl_len, mrows_len, nsl_len, ws_len, List.length_map, ul_len, psl_len, isl_len, nrows_len, prL_len, blR_len, stK_len, inh1_len, st0_len, status32_len]; omega) | (simp; done) | (simp; omega) | (simp [isl, bsl]; omega)) (by first | exact Nat.mul_one _ | rfl | omega)) ?_
          | refine DL_cy rfl rfl (op_ixS _ _ inferInstance rfl rfl (Int.toNat _) (Int.toNat_of_nonneg (by omega)).symm (by omega) (by first | assumption | decide | (simp only [isl_len, bsl_len, psl_len, mrows_len, nsl_len, ws_len, List.length_map, ul_len, psl_len, isl_len, nrows_len, prL_len, blR_len, stK_len, inh1_len, st0_len, status32_len]; omega) | (simp; done) | (simp; omega) | (simp [isl, bsl]; omega)) (by first | exact Nat.mul_one _ | rfl | omega)) ?_
        first
          | refine DL_cy rfl rfl (op_fldP _ inferInstance rfl rfl rfl) ?_
          | refine DL_cy rfl rfl (op_fldF _ inferInstance rfl rfl) ?_
        refine DL_cy rfl rfl (op_ldF _ inferInstance rfl (by first | rfl | exact isl_get _ _ (by omega) | exact bsl_get _ _ (by omega) | assumption | exact isl_get _ _ (by omega) | exact nsl_get _ _ (by omega) | exact nrows_get _ _ (by omega) | exact blR_get0 _ _ (by omega) | exact blR_get1 _ _ (by omega)) rfl) ?_
        refine DL_cy rfl rfl (op_callH inferInstance (by repeat' (first | exact argsLv_nil | refine argsLv_cons ?_ ?_ | exact Lv.v | exact lvI (by omega) | exact Lv.sl | exact Lv.fp | exact Lv.nil | refine Lv.agg rfl ?_ | refine Lv.fn rfl ?_ rfl ?_ | exact lv_nil | refine lv_cons ?_ ?_ | exact Lv.z0)) (hasNN_spec _ (upE Ps (AL.getD i (0, [])).1) (AL.getD k (0, [])).1 rfl (by omega)) rfl rfl) ?_
        refine DL_c (op_pick _ _ _ rfl (rfl : _ = AV.v (.bool _))) ?_
        refine DL_nil (hK21 _ ?_)
        clear hK21; try clear K21
        refine D_splitC rfl (fun hc81 => ?_) (fun hc81 => ?_)
        · skip
          exact absurd  hc81 (hap i k (by omega) (by omega) (by omega))
        · skip
          refine D_skip (hK20 _ ?_)
          clear hK20; try clear K20
          refine D_le (σ' := mkStI 192 [(3, _), (10, _), (11, _), (13, _), (14, _), (15, _), (16, _), (17, _), (18, _)] [((15, 0), _)] [] []) (by
            refine Le.mkJ [] [] rfl ?_ ?_ trivial trivial ?_
            · exact ⟨(iV rfl), (iS rfl), (iF rfl), (iV rfl), (iS rfl), (iR rfl), (iV rfl), (iS rfl), (iV rfl), trivial⟩
            · exact ⟨(obE rfl rfl rfl), trivial⟩
            · kernel_rfl) ?_
          refine D_region ?_
          refine DL_c (op_mv _ (rfl : _ = AV.v (.int _ _))) ?_
          first
            | refine DL_c (op_add _ _ rfl rfl (i64w (by omega))) ?_
            | refine DL_c (op_add _ _ rfl rfl rfl) ?_
          refine DL_c (op_as _ (rfl : _ = AV.v (.int _ _))) ?_
          refine DL_nil ?_
          refine ⟨k + 1, ?_, ?_, ?_⟩
          · first | omega | trivial | exact ⟨by omega, by omega⟩
          · skip
            refine Le.mkJ [] [] rfl ?_ ?_ trivial trivial ?_
            · exact ⟨(iV rfl), (iS rfl), (iF rfl), (iV rfl), (iS rfl), (iR rfl), (iV rfl), (iS rfl), (lvI (by first | rfl | omega | (simp; done) | (simp; omega) | assumption)), trivial⟩
            · exact ⟨(obE rfl rfl rfl), trivial⟩
            · kernel_rfl
          · omega
      · skip
        refine DL_cn rfl rfl (by decide) ?_
        refine DL_cn rfl rfl (by decide) ?_
        refine DL_cn rfl rfl (by decide) ?_
        refine DL_cn rfl rfl (by decide) ?_
        refine DL_cn rfl rfl (by decide) ?_
        refine DL_cn rfl rfl (by decide) ?_
        refine DL_cn rfl rfl (by decide) ?_
        refine DL_c (op_pick _ _ _ rfl (rfl : _ = AV.v (.bool _))) ?_
        refine DL_nil (hK21 _ ?_)
        clear hK21; try clear K21
        refine D_cF rfl rfl ?_
        refine D_skip (hK20 _ ?_)
        clear hK20; try clear K20
        refine D_le (σ' := mkStI 192 [(3, _), (10, _), (11, _), (13, _), (14, _), (15, _), (16, _), (17, _), (18, _)] [((15, 0), _)] [] []) (by
          refine Le.mkJ [] [] rfl ?_ ?_ trivial trivial ?_
          · exact ⟨(iV rfl), (iS rfl), (iF rfl), (iV rfl), (iS rfl), (iR rfl), (iV rfl), (iS rfl), (iV rfl), trivial⟩
          · exact ⟨(obE rfl rfl rfl), trivial⟩
          · kernel_rfl) ?_
        refine D_region ?_
        refine DL_c (op_mv _ (rfl : _ = AV.v (.int _ _))) ?_
        first
          | refine DL_c (op_add _ _ rfl rfl (i64w (by omega))) ?_
          | refine DL_c (op_add _ _ rfl rfl rfl) ?_
        refine DL_c (op_as _ (rfl : _ = AV.v (.int _ _))) ?_
        refine DL_nil ?_
        refine ⟨k + 1, ?_, ?_, ?_⟩
        · first | omega | trivial | exact ⟨by omega, by omega⟩
        · skip
          refine Le.mkJ [] [] rfl ?_ ?_ trivial trivial ?_
          · exact ⟨(iV rfl), (iS rfl), (iF rfl), (iV rfl), (iS rfl), (iR rfl), (iV rfl), (iS rfl), (lvI (by first | rfl | omega | (simp; done) | (simp; omega) | assumption)), trivial⟩
          · exact ⟨(obE rfl rfl rfl), trivial⟩
          · kernel_rfl
        · omega
    · skip
      refine D_exit ?_
      refine id (hK16 _ ?_)
      clear hK16; try clear K16
      refine D_region ?_
      refine DL_c (op_mv _ (rfl : _ = AV.ref _ _ _)) ?_
      refine DL_c (op_mv _ (rfl : _ = AV.sl _ _)) ?_
      refine DL_c (op_mv _ (rfl : _ = AV.v (.int _ _))) ?_
      first
        | refine DL_c (op_ixS _ _ inferInstance rfl rfl _ rfl (by omega) (by first | assumption | decide | (simp only [isl_len, bsl_len, psl_len, mrows_len, nsl_len, ws_len, List.length_map, ul_len, psl_len, isl_len, nrows_len, prL_len, blR_len, stK_len, inh1_len, st0_len, status32_len]; omega) | (simp; done) | (simp; omega) | (simp [isl, bsl]; omega)) (by first | exact Nat.mul_one _ | rfl | omega)) ?_
        | refine DL_c (op_ixS _ _ inferInstance rfl rfl (Int.toNat _) (Int.toNat_of_nonneg (by omega)).symm (by omega) (by first | assumption | decide | (simp only [isl_len, bsl_len, psl_len, mrows_len, nsl_len, ws_len, List.length_map, ul_len, psl_len, isl_len, nrows_len, prL_len, blR_len, stK_len, inh1_len, st0_len, status32_len]; omega) | (simp; done) | (simp; omega) | (simp [isl, bsl]; omega)) (by first | exact Nat.mul_one _ | rfl | omega)) ?_
      first
        | refine DL_c (op_fldP _ inferInstance rfl rfl rfl) ?_
        | refine DL_c (op_fldF _ inferInstance rfl rfl) ?_
      refine DL_c (op_ldF _ inferInstance rfl (by first | rfl | exact isl_get _ _ (by omega) | exact bsl_get _ _ (by omega) | assumption | exact isl_get _ _ (by omega) | exact nsl_get _ _ (by omega) | exact nrows_get _ _ (by omega) | exact blR_get0 _ _ (by omega) | exact blR_get1 _ _ (by omega)) rfl) ?_
      refine DL_c (op_bsF _ _ inferInstance rfl (by rfl) (by simp <;> rfl) (by decide) rfl) ?_
      refine DL_c (op_ap (89, 0) _ _ inferInstance rfl rfl (by first | rfl | omega | (simp only [isl_len, bsl_len, psl_len, mrows_len, nsl_len, ws_len, List.length_map, ul_len, psl_len, isl_len, nrows_len, prL_len, blR_len, stK_len, inh1_len, st0_len, status32_len]; omega) | (simp; done) | (simp; omega)) (by first | exact .nil | (refine .sl ?_; first | (simp [isl]; done) | (simp [isl]; omega)) | (refine .ref rfl rfl ?_; first | (simp; done) | (simp; omega))) (by omega) rfl (rfl) (rfl)) ?_
      refine DL_c (op_as _ (rfl : _ = AV.ref _ _ _)) ?_
      refine DL_nil (hK14 _ ?_)
      clear hK14; try clear K14
      refine D_region ?_
      refine DL_c (op_mv _ (rfl : _ = AV.v (.int _ _))) ?_
      first
        | refine DL_c (op_add _ _ rfl rfl (i64w (by omega))) ?_
        | refine DL_c (op_add _ _ rfl rfl rfl) ?_
      refine DL_c (op_as _ (rfl : _ = AV.v (.int _ _))) ?_
      refine DL_nil ?_
      refine ⟨i + 1, ?_, ?_, ?_⟩
      · first | omega | trivial | exact ⟨by omega, by omega⟩
      · skip
        refine Le.mkJ [((15, 0), (89, 0))] [] rfl ?_ ?_ trivial trivial ?_
        · exact ⟨(by repeat' (first | exact Lv.v | exact Lv.sl | exact Lv.fp | exact lvRr (id := (15, 0)) rfl rfl | exact lvPr (id := (15, 0)) rfl | exact lvRr rfl rfl | exact lvPr rfl | exact Lv.mp | exact Lv.nil | exact Lv.z | exact Lv.dead | refine Lv.agg rfl ?_ | refine Lv.fn rfl ?_ rfl ?_ | refine Lv.tup rfl ?_ | refine Lv.ifc ?_ | exact lv_nil | refine lv_cons ?_ ?_)), (by repeat' (first | exact Lv.v | exact Lv.sl | exact Lv.fp | exact lvRr (id := (15, 0)) rfl rfl | exact lvPr (id := (15, 0)) rfl | exact lvRr rfl rfl | exact lvPr rfl | exact Lv.mp | exact Lv.nil | exact Lv.z | exact Lv.dead | refine Lv.agg rfl ?_ | refine Lv.fn rfl ?_ rfl ?_ | refine Lv.tup rfl ?_ | refine Lv.ifc ?_ | exact lv_nil | refine lv_cons ?_ ?_)), (by repeat' (first | exact Lv.v | exact Lv.sl | exact Lv.fp | exact lvRr (id := (15, 0)) rfl rfl | exact lvPr (id := (15, 0)) rfl | exact lvRr rfl rfl | exact lvPr rfl | exact Lv.mp | exact Lv.nil | exact Lv.z | exact Lv.dead | refine Lv.agg rfl ?_ | refine Lv.fn rfl ?_ rfl ?_ | refine Lv.tup rfl ?_ | refine Lv.ifc ?_ | exact lv_nil | refine lv_cons ?_ ?_)), (by repeat' (first | exact Lv.v | exact Lv.sl | exact Lv.fp | exact lvRr (id := (15, 0)) rfl rfl | exact lvPr (id := (15, 0)) rfl | exact lvRr rfl rfl | exact lvPr rfl | exact Lv.mp | exact Lv.nil | exact Lv.z | exact Lv.dead | refine Lv.agg rfl ?_ | refine Lv.fn rfl ?_ rfl ?_ | refine Lv.tup rfl ?_ | refine Lv.ifc ?_ | exact lv_nil | refine lv_cons ?_ ?_)), (by repeat' (first | exact Lv.v | exact Lv.sl | exact Lv.fp | exact lvRr (id := (15, 0)) rfl rfl | exact lvPr (id := (15, 0)) rfl | exact lvRr rfl rfl | exact lvPr rfl | exact Lv.mp | exact Lv.nil | exact Lv.z | exact Lv.dead | refine Lv.agg rfl ?_ | refine Lv.fn rfl ?_ rfl ?_ | refine Lv.tup rfl ?_ | refine Lv.ifc ?_ | exact lv_nil | refine lv_cons ?_ ?_)), (lvI (by first | rfl | omega | (first | (rw [hbs, ← nsl_append]; rfl)) | (simp; done) | (simp; omega) | assumption)), (lvRr rfl (by first | rfl | omega | (first | (rw [hbs, ← nsl_append]; rfl)) | (simp; done) | (simp; omega) | assumption)), trivial⟩
        · exact ⟨(obR rfl rfl rfl (by first | rfl | omega | (first | (rw [hbs, ← nsl_append]; rfl)) | (simp; done) | (simp; omega) | assumption)), trivial⟩
        · kernel_rfl
      · omega
  · skip
    have hbf : bfst AL i = AL.map (·.1) := by unfold bfst; rw [List.take_of_length_le (by omega)]
    refine D_exit ?_
    refine id (hK10 _ ?_)
    clear hK10; try clear K10
    refine D_seq fun K22 hK22 => ?_
    refine D_region ?_
    refine DL_c (op_mv _ (rfl : _ = AV.fp _ _)) ?_
    refine DL_c (op_mv _ (rfl : _ = AV.v (.int _ _))) ?_
    refine DL_c (op_callH inferInstance (by repeat' (first | exact argsLv_nil | refine argsLv_cons ?_ ?_ | exact Lv.v | exact lvI (by omega) | exact Lv.sl | exact Lv.fp | exact Lv.nil | refine Lv.agg rfl ?_ | refine Lv.fn rfl ?_ rfl ?_ | exact lv_nil | refine lv_cons ?_ ?_ | exact Lv.z0)) (ancsN_spec hPn hn64 (parW Ps) h) rfl rfl) ?_
    refine DL_c (op_as _ (rfl : _ = AV.sl _ _)) ?_
    refine DL_nil (hK22 _ ?_)
    clear hK22; try clear K22
    refine D_seq fun K23 hK23 => ?_
    refine D_seq fun K24 hK24 => ?_
    refine D_region ?_
    refine DL_c (op_as _ (rfl : _ = AV.v (.int _ _))) ?_
    refine DL_nil (hK24 _ ?_)
    clear hK24; try clear K24
    refine D_block ?_
    refine D_loopL (α := Nat) (fun e => e ≤ (upE Ps h).length) 192 [(3, _), (10, _), (11, _), (14, _), (15, _), (19, _)] [((15, 0), _)] (fun e => [(20, .v (.int .i64 (e : Int)))]) (fun e => []) [] [] (fun e => (upE Ps h).length - e) 0 ?_ (by
      refine Le.mkJ [] [] rfl ?_ ?_ trivial trivial ?_
      · exact ⟨(iV rfl), (iS rfl), (iF rfl), (iS rfl), (iR rfl), (iS rfl), (lvI (by first | rfl | omega | (simp; done) | (simp; omega) | assumption)), trivial⟩
      · exact ⟨(obE rfl rfl rfl), trivial⟩
      · kernel_rfl) ?_
    · first | omega | trivial | exact ⟨by omega, by omega⟩
    intro e he
    refine D_seq fun K25 hK25 => ?_
    refine D_seq fun K26 hK26 => ?_
    refine D_region ?_
    refine DL_c (op_mv _ (rfl : _ = AV.v (.int _ _))) ?_
    refine DL_c (op_mv _ (rfl : _ = AV.sl _ _)) ?_
    refine DL_c (op_lenS _ inferInstance rfl) ?_
    first
      | refine DL_c (op_lss _ _ rfl rfl (by assumption)) ?_
      | refine DL_c (op_lss _ _ rfl rfl rfl) ?_
    refine DL_nil (hK26 _ ?_)
    clear hK26; try clear K26
    refine D_splitC rfl (fun hc96 => ?_) (fun hc96 => ?_)
    · skip
      obtain ⟨u, hu⟩ : ∃ u, u = (upE Ps h).getD e 0 := ⟨_, rfl⟩
      have hum : u ∈ upE Ps h := hu ▸ getD_mem (by omega)
      have hun := hupt u hum
      have huu := upE_len Ps u
      refine D_skip (hK25 _ ?_)
      clear hK25; try clear K25
      refine D_seq fun K27 hK27 => ?_
      refine D_block ?_
      refine D_seq fun K28 hK28 => ?_
      refine D_seq fun K29 hK29 => ?_
      refine D_region ?_
      refine DL_c (op_mv _ (rfl : _ = AV.sl _ _)) ?_
      refine DL_c (op_mv _ (rfl : _ = AV.v (.int _ _))) ?_
      first
        | refine DL_c (op_ixS _ _ inferInstance rfl rfl _ rfl (by omega) (by first | assumption | decide | (simp only [isl_len, bsl_len, psl_len, mrows_len, nsl_len, ws_len, List.length_map, ul_len, psl_len, isl_len, nrows_len, prL_len, blR_len, stK_len, inh1_len, st0_len, status32_len]; omega) | (simp; done) | (simp; omega) | (simp [isl, bsl]; omega)) (by first | exact Nat.mul_one _ | rfl | omega)) ?_
        | refine DL_c (op_ixS _ _ inferInstance rfl rfl (Int.toNat _) (Int.toNat_of_nonneg (by omega)).symm (by omega) (by first | assumption | decide | (simp only [isl_len, bsl_len, psl_len, mrows_len, nsl_len, ws_len, List.length_map, ul_len, psl_len, isl_len, nrows_len, prL_len, blR_len, stK_len, inh1_len, st0_len, status32_len]; omega) | (simp; done) | (simp; omega) | (simp [isl, bsl]; omega)) (by first | exact Nat.mul_one _ | rfl | omega)) ?_
      refine DL_c (op_ldF _ inferInstance rfl (by exact (nsl_get _ _ (by omega)).trans (by rw [← hu])) rfl) ?_
      first
        | refine DL_c (op_lss _ _ rfl rfl (by assumption)) ?_
        | refine DL_c (op_lss _ _ rfl rfl rfl) ?_
      refine DL_c (op_mv _ (rfl : _ = AV.v (.bool _))) ?_
      refine DL_caseC (fun hg104 => ?_) (fun hg104 => ?_)
      · skip
        refine DL_cn rfl rfl (by decide) ?_
        refine DL_cn rfl rfl (by decide) ?_
        refine DL_cn rfl rfl (by decide) ?_
        refine DL_cn rfl rfl (by decide) ?_
        refine DL_cn rfl rfl (by decide) ?_
        refine DL_cn rfl rfl (by decide) ?_
        refine DL_cn rfl rfl (by decide) ?_
        refine DL_c (op_pick _ _ _ rfl (rfl : _ = AV.v (.bool _))) ?_
        refine DL_nil (hK29 _ ?_)
        clear hK29; try clear K29
        refine D_cT rfl rfl ?_
        refine D_seq fun K30 hK30 => ?_
        refine D_le (σ' := mkStI 192 [] [] [] []) (by
          refine Le.mkJ [] [] rfl ?_ ?_ trivial trivial ?_
          · exact trivial
          · exact trivial
          · kernel_rfl) ?_
        refine D_region ?_
        refine DL_c (op_as _ (rfl : _ = AV.v (.bool _))) ?_
        refine DL_nil (hK30 _ ?_)
        clear hK30; try clear K30
        refine D_ret ?_
        exact absurd hg104 (by omega)
      · skip
        refine DL_cy rfl rfl (op_mv _ (rfl : _ = AV.sl _ _)) ?_
        refine DL_cy rfl rfl (op_mv _ (rfl : _ = AV.v (.int _ _))) ?_
        first
          | refine DL_cy rfl rfl (op_ixS _ _ inferInstance rfl rfl _ rfl (by omega) (by first | assumption | decide | (simp only [isl_len, bsl_len, psl_len, mrows_len, nsl_len, ws_len, List.length_map, ul_len, psl_len, isl_len, nrows_len, prL_len, blR_len, stK_len, inh1_len, st0_len, status32_len]; omega) | (simp; done) | (simp; omega) | (simp [isl, bsl]; omega)) (by first | exact Nat.mul_one _ | rfl | omega)) ?_
          | refine DL_cy rfl rfl (op_ixS _ _ inferInstance rfl rfl (Int.toNat _) (Int.toNat_of_nonneg (by omega)).symm (by omega) (by first | assumption | decide | (simp only [isl_len, bsl_len, psl_len, mrows_len, nsl_len, ws_len, List.length_map, ul_len, psl_len, isl_len, nrows_len, prL_len, blR_len, stK_len, inh1_len, st0_len, status32_len]; omega) | (simp; done) | (simp; omega) | (simp [isl, bsl]; omega)) (by first | exact Nat.mul_one _ | rfl | omega)) ?_
        refine DL_cy rfl rfl (op_ldF _ inferInstance rfl (by exact (nsl_get _ _ (by omega)).trans (by rw [← hu])) rfl) ?_
        refine DL_cy rfl rfl (op_mv _ (rfl : _ = AV.sl _ _)) ?_
        refine DL_cy rfl rfl (op_lenS _ inferInstance rfl) ?_
        first
          | refine DL_cy rfl rfl (op_geq _ _ rfl rfl (by assumption)) ?_
          | refine DL_cy rfl rfl (op_geq _ _ rfl rfl rfl) ?_
        refine DL_c (op_pick _ _ _ rfl (rfl : _ = AV.v (.bool _))) ?_
        refine DL_nil (hK29 _ ?_)
        clear hK29; try clear K29
        refine D_splitC rfl (fun hc112 => ?_) (fun hc112 => ?_)
        · skip
          exact absurd  hc112 (by omega)
        · skip
          refine D_skip (hK28 _ ?_)
          clear hK28; try clear K28
          refine D_seq fun K31 hK31 => ?_
          refine D_seq fun K32 hK32 => ?_
          refine D_le (σ' := mkStI 192 [(3, _), (10, _), (11, _), (14, _), (15, _), (19, _), (20, _)] [((15, 0), _)] [] []) (by
            refine Le.mkJ [] [] rfl ?_ ?_ trivial trivial ?_
            · exact ⟨(iV rfl), (iS rfl), (iF rfl), (iS rfl), (iR rfl), (iS rfl), (iV rfl), trivial⟩
            · exact ⟨(obE rfl rfl rfl), trivial⟩
            · kernel_rfl) ?_
          refine D_region ?_
          refine DL_c (op_mv _ (rfl : _ = AV.sl _ _)) ?_
          refine DL_c (op_mv _ (rfl : _ = AV.sl _ _)) ?_
          refine DL_c (op_mv _ (rfl : _ = AV.v (.int _ _))) ?_
          first
            | refine DL_c (op_ixS _ _ inferInstance rfl rfl _ rfl (by omega) (by first | assumption | decide | (simp only [isl_len, bsl_len, psl_len, mrows_len, nsl_len, ws_len, List.length_map, ul_len, psl_len, isl_len, nrows_len, prL_len, blR_len, stK_len, inh1_len, st0_len, status32_len]; omega) | (simp; done) | (simp; omega) | (simp [isl, bsl]; omega)) (by first | exact Nat.mul_one _ | rfl | omega)) ?_
            | refine DL_c (op_ixS _ _ inferInstance rfl rfl (Int.toNat _) (Int.toNat_of_nonneg (by omega)).symm (by omega) (by first | assumption | decide | (simp only [isl_len, bsl_len, psl_len, mrows_len, nsl_len, ws_len, List.length_map, ul_len, psl_len, isl_len, nrows_len, prL_len, blR_len, stK_len, inh1_len, st0_len, status32_len]; omega) | (simp; done) | (simp; omega) | (simp [isl, bsl]; omega)) (by first | exact Nat.mul_one _ | rfl | omega)) ?_
          refine DL_c (op_ldF _ inferInstance rfl (by exact (nsl_get _ _ (by omega)).trans (by rw [← hu])) rfl) ?_
          refine DL_c (op_ixS _ _ inferInstance rfl rfl u rfl (by omega) (by simp; omega) (Nat.mul_one _)) ?_
          refine DL_c (op_ldF _ inferInstance rfl (by first | rfl | exact isl_get _ _ (by omega) | exact bsl_get _ _ (by omega) | assumption | exact isl_get _ _ (by omega) | exact nsl_get _ _ (by omega) | exact nrows_get _ _ (by omega) | exact blR_get0 _ _ (by omega) | exact blR_get1 _ _ (by omega)) rfl) ?_
          first
            | refine DL_c (op_neq _ _ rfl rfl (by assumption)) ?_
            | refine DL_c (op_neq _ _ rfl rfl rfl) ?_
          refine DL_nil (hK32 _ ?_)
          clear hK32; try clear K32
          refine D_splitC rfl (fun hc120 => ?_) (fun hc120 => ?_)
          · skip
            refine D_exit ?_
            refine id (hK27 _ ?_)
            clear hK27; try clear K27
            refine D_region ?_
            refine DL_c (op_mv _ (rfl : _ = AV.v (.int _ _))) ?_
            first
              | refine DL_c (op_add _ _ rfl rfl (i64w (by omega))) ?_
              | refine DL_c (op_add _ _ rfl rfl rfl) ?_
            refine DL_c (op_as _ (rfl : _ = AV.v (.int _ _))) ?_
            refine DL_nil ?_
            refine ⟨e + 1, ?_, ?_, ?_⟩
            · first | omega | trivial | exact ⟨by omega, by omega⟩
            · skip
              refine Le.mkJ [] [] rfl ?_ ?_ trivial trivial ?_
              · exact ⟨(iV rfl), (iS rfl), (iF rfl), (iS rfl), (iR rfl), (iS rfl), (lvI (by first | rfl | omega | (simp; done) | (simp; omega) | assumption)), trivial⟩
              · exact ⟨(obE rfl rfl rfl), trivial⟩
              · kernel_rfl
            · omega
          · skip
            refine D_skip (hK31 _ ?_)
            clear hK31; try clear K31
            refine D_seq fun K33 hK33 => ?_
            refine D_region ?_
            refine DL_c (op_as _ (rfl : _ = AV.v (.bool _))) ?_
            refine DL_nil (hK33 _ ?_)
            clear hK33; try clear K33
            refine D_seq fun K34 hK34 => ?_
            refine D_region ?_
            refine DL_c (op_mv _ (rfl : _ = AV.fp _ _)) ?_
            refine DL_c (op_mv _ (rfl : _ = AV.sl _ _)) ?_
            refine DL_c (op_mv _ (rfl : _ = AV.v (.int _ _))) ?_
            first
              | refine DL_c (op_ixS _ _ inferInstance rfl rfl _ rfl (by omega) (by first | assumption | decide | (simp only [isl_len, bsl_len, psl_len, mrows_len, nsl_len, ws_len, List.length_map, ul_len, psl_len, isl_len, nrows_len, prL_len, blR_len, stK_len, inh1_len, st0_len, status32_len]; omega) | (simp; done) | (simp; omega) | (simp [isl, bsl]; omega)) (by first | exact Nat.mul_one _ | rfl | omega)) ?_
              | refine DL_c (op_ixS _ _ inferInstance rfl rfl (Int.toNat _) (Int.toNat_of_nonneg (by omega)).symm (by omega) (by first | assumption | decide | (simp only [isl_len, bsl_len, psl_len, mrows_len, nsl_len, ws_len, List.length_map, ul_len, psl_len, isl_len, nrows_len, prL_len, blR_len, stK_len, inh1_len, st0_len, status32_len]; omega) | (simp; done) | (simp; omega) | (simp [isl, bsl]; omega)) (by first | exact Nat.mul_one _ | rfl | omega)) ?_
            refine DL_c (op_ldF _ inferInstance rfl (by exact (nsl_get _ _ (by omega)).trans (by rw [← hu])) rfl) ?_
            refine DL_c (op_callH inferInstance (by repeat' (first | exact argsLv_nil | refine argsLv_cons ?_ ?_ | exact Lv.v | exact lvI (by omega) | exact Lv.sl | exact Lv.fp | exact Lv.nil | refine Lv.agg rfl ?_ | refine Lv.fn rfl ?_ rfl ?_ | exact lv_nil | refine lv_cons ?_ ?_ | exact Lv.z0)) (ancsN_spec hPn hn64 (parW Ps) u) rfl rfl) ?_
            refine DL_c (op_as _ (rfl : _ = AV.sl _ _)) ?_
            refine DL_nil (hK34 _ ?_)
            clear hK34; try clear K34
            refine D_seq fun K35 hK35 => ?_
            refine D_seq fun K36 hK36 => ?_
            refine D_le (σ' := mkStI 192 [(3, _), (10, _), (11, _), (14, _), (15, _), (19, _), (20, _), (21, _), (22, _)] [((15, 0), _)] [] []) (by
              refine Le.mkJ [] [] rfl ?_ ?_ trivial trivial ?_
              · exact ⟨(iV rfl), (iS rfl), (iF rfl), (iS rfl), (iR rfl), (iS rfl), (iV rfl), (iV rfl), (iS rfl), trivial⟩
              · exact ⟨(obE rfl rfl rfl), trivial⟩
              · kernel_rfl) ?_
            refine D_region ?_
            refine DL_c (op_as _ (rfl : _ = AV.v (.int _ _))) ?_
            refine DL_nil (hK36 _ ?_)
            clear hK36; try clear K36
            refine D_block ?_
            refine D_loopL (α := Nat) (fun j => j ≤ (upE Ps u).length) 192 [(3, _), (10, _), (11, _), (14, _), (15, _), (19, _), (20, _), (22, _)] [((15, 0), _)] (fun j => [(23, .v (.int .i64 (j : Int))), (21, .v (.bool (((upE Ps u).take j).any fun x => decide (x ∈ bfst AL i))))]) (fun j => []) [] [] (fun j => (upE Ps u).length - j) 0 ?_ (by
              refine Le.mkJ [] [] rfl ?_ ?_ trivial trivial ?_
              · exact ⟨(iV rfl), (iS rfl), (iF rfl), (iS rfl), (iR rfl), (iS rfl), (iV rfl), (iS rfl), (lvI (by first | rfl | omega | (simp; done) | (simp; omega) | assumption)), (lvB (by rfl)), trivial⟩
              · exact ⟨(obE rfl rfl rfl), trivial⟩
              · kernel_rfl) ?_
            · first | omega | trivial | exact ⟨by omega, by omega⟩
            intro j hj
            refine D_seq fun K37 hK37 => ?_
            refine D_seq fun K38 hK38 => ?_
            refine D_region ?_
            refine DL_c (op_mv _ (rfl : _ = AV.v (.int _ _))) ?_
            refine DL_c (op_mv _ (rfl : _ = AV.sl _ _)) ?_
            refine DL_c (op_lenS _ inferInstance rfl) ?_
            first
              | refine DL_c (op_lss _ _ rfl rfl (by assumption)) ?_
              | refine DL_c (op_lss _ _ rfl rfl rfl) ?_
            refine DL_nil (hK38 _ ?_)
            clear hK38; try clear K38
            refine D_splitC rfl (fun hc130 => ?_) (fun hc130 => ?_)
            · skip
              have han : ((upE Ps u).take (j + 1)).any (fun x => decide (x ∈ bfst AL i)) = (((upE Ps u).take j).any (fun x => decide (x ∈ bfst AL i)) || decide ((upE Ps u).getD j 0 ∈ bfst AL i)) := by rw [take1 0 (by omega), List.any_append]; simp
              refine D_skip (hK37 _ ?_)
              clear hK37; try clear K37
              refine D_seq fun K39 hK39 => ?_
              refine D_block ?_
              refine D_region ?_
              refine DL_c (op_mv _ (rfl : _ = AV.v (.bool _))) ?_
              refine DL_c (op_mv _ (rfl : _ = AV.v (.bool _))) ?_
              refine DL_caseC (fun hg134 => ?_) (fun hg134 => ?_)
              · skip
                refine DL_cn rfl rfl (by decide) ?_
                refine DL_cn rfl rfl (by decide) ?_
                refine DL_cn rfl rfl (by decide) ?_
                refine DL_cn rfl rfl (by decide) ?_
                refine DL_cn rfl rfl (by decide) ?_
                refine DL_cn rfl rfl (by decide) ?_
                refine DL_c (op_pick _ _ _ rfl (rfl : _ = AV.v (.bool _))) ?_
                refine DL_c (op_as _ (rfl : _ = AV.v (.bool _))) ?_
                refine DL_nil (hK39 _ ?_)
                clear hK39; try clear K39
                refine D_region ?_
                refine DL_c (op_mv _ (rfl : _ = AV.v (.int _ _))) ?_
                first
                  | refine DL_c (op_add _ _ rfl rfl (i64w (by omega))) ?_
                  | refine DL_c (op_add _ _ rfl rfl rfl) ?_
                refine DL_c (op_as _ (rfl : _ = AV.v (.int _ _))) ?_
                refine DL_nil ?_
                refine ⟨j + 1, ?_, ?_, ?_⟩
                · first | omega | trivial | exact ⟨by omega, by omega⟩
                · skip
                  refine Le.mkJ [] [] rfl ?_ ?_ trivial trivial ?_
                  · exact ⟨(iV rfl), (iS rfl), (iF rfl), (iS rfl), (iR rfl), (iS rfl), (iV rfl), (iS rfl), (lvI (by first | rfl | omega | (simp; done) | (simp; omega) | assumption)), (lvB (by first | rw [han, hg134, Bool.true_or] | rw [han, hg134, Bool.false_or])), trivial⟩
                  · exact ⟨(obE rfl rfl rfl), trivial⟩
                  · kernel_rfl
                · omega
              · skip
                refine DL_cy rfl rfl (op_mv _ (rfl : _ = AV.ref _ _ _)) ?_
                refine DL_cy rfl rfl (op_mv _ (rfl : _ = AV.sl _ _)) ?_
                refine DL_cy rfl rfl (op_mv _ (rfl : _ = AV.v (.int _ _))) ?_
                first
                  | refine DL_cy rfl rfl (op_ixS _ _ inferInstance rfl rfl _ rfl (by omega) (by first | assumption | decide | (simp only [isl_len, bsl_len, psl_len, mrows_len, nsl_len, ws_len, List.length_map, ul_len, psl_len, isl_len, nrows_len, prL_len, blR_len, stK_len, inh1_len, st0_len, status32_len]; omega) | (simp; done) | (simp; omega) | (simp [isl, bsl]; omega)) (by first | exact Nat.mul_one _ | rfl | omega)) ?_
                  | refine DL_cy rfl rfl (op_ixS _ _ inferInstance rfl rfl (Int.toNat _) (Int.toNat_of_nonneg (by omega)).symm (by omega) (by first | assumption | decide | (simp only [isl_len, bsl_len, psl_len, mrows_len, nsl_len, ws_len, List.length_map, ul_len, psl_len, isl_len, nrows_len, prL_len, blR_len, stK_len, inh1_len, st0_len, status32_len]; omega) | (simp; done) | (simp; omega) | (simp [isl, bsl]; omega)) (by first | exact Nat.mul_one _ | rfl | omega)) ?_
                refine DL_cy rfl rfl (op_ldF _ inferInstance rfl (by first | rfl | exact isl_get _ _ (by omega) | exact bsl_get _ _ (by omega) | assumption | exact isl_get _ _ (by omega) | exact nsl_get _ _ (by omega) | exact nrows_get _ _ (by omega) | exact blR_get0 _ _ (by omega) | exact blR_get1 _ _ (by omega)) rfl) ?_
                refine DL_cy rfl rfl (op_callBH inferInstance (by repeat' (first | exact argsLv_nil | refine argsLv_cons ?_ ?_ | exact Lv.v | exact lvI (by omega) | exact Lv.sl | exact Lv.fp | exact Lv.nil | refine Lv.agg rfl ?_ | refine Lv.fn rfl ?_ rfl ?_ | exact lv_nil | refine lv_cons ?_ ?_ | (refine frz0 rfl rfl ?_ rfl; first | (simp; done) | (simp; omega) | omega) | exact Lv.frzP rfl rfl rfl)) (hasNN_spec i (bfst AL i) ((upE Ps u).getD j 0) hbl (by omega)) rfl) ?_
                refine DL_c (op_pick _ _ _ rfl (rfl : _ = AV.v (.bool _))) ?_
                refine DL_c (op_as _ (rfl : _ = AV.v (.bool _))) ?_
                refine DL_nil (hK39 _ ?_)
                clear hK39; try clear K39
                refine D_region ?_
                refine DL_c (op_mv _ (rfl : _ = AV.v (.int _ _))) ?_
                first
                  | refine DL_c (op_add _ _ rfl rfl (i64w (by omega))) ?_
                  | refine DL_c (op_add _ _ rfl rfl rfl) ?_
                refine DL_c (op_as _ (rfl : _ = AV.v (.int _ _))) ?_
                refine DL_nil ?_
                refine ⟨j + 1, ?_, ?_, ?_⟩
                · first | omega | trivial | exact ⟨by omega, by omega⟩
                · skip
                  refine Le.mkJ [] [] rfl ?_ ?_ trivial trivial ?_
                  · exact ⟨(iV rfl), (iS rfl), (iF rfl), (iS rfl), (iR rfl), (iS rfl), (iV rfl), (iS rfl), (lvI (by first | rfl | omega | (simp; done) | (simp; omega) | assumption)), (lvB (by first | rw [han, hg134, Bool.true_or] | rw [han, hg134, Bool.false_or])), trivial⟩
                  · exact ⟨(obE rfl rfl rfl), trivial⟩
                  · kernel_rfl
                · omega
            · skip
              have hjl : (upE Ps u).take j = upE Ps u := List.take_of_length_le (by omega)
              refine D_exit ?_
              refine id (hK35 _ ?_)
              clear hK35; try clear K35
              refine D_seq fun K40 hK40 => ?_
              refine D_region ?_
              refine DL_c (op_mv _ (rfl : _ = AV.v (.bool _))) ?_
              refine DL_c (op_not _ rfl rfl) ?_
              refine DL_nil (hK40 _ ?_)
              clear hK40; try clear K40
              refine D_splitC rfl (fun hc143 => ?_) (fun hc143 => ?_)
              · skip
                exact absurd  hc143 (by rw [hjl, hbf]; obtain ⟨w, h3, h4⟩ := hex u hum (by omega); simp; exact ⟨w, h3, by simpa using h4⟩)
              · skip
                refine D_skip (hK27 _ ?_)
                clear hK27; try clear K27
                refine D_region ?_
                refine DL_c (op_mv _ (rfl : _ = AV.v (.int _ _))) ?_
                first
                  | refine DL_c (op_add _ _ rfl rfl (i64w (by omega))) ?_
                  | refine DL_c (op_add _ _ rfl rfl rfl) ?_
                refine DL_c (op_as _ (rfl : _ = AV.v (.int _ _))) ?_
                refine DL_nil ?_
                refine ⟨e + 1, ?_, ?_, ?_⟩
                · first | omega | trivial | exact ⟨by omega, by omega⟩
                · skip
                  refine Le.mkJ [] [] rfl ?_ ?_ trivial trivial ?_
                  · exact ⟨(iV rfl), (iS rfl), (iF rfl), (iS rfl), (iR rfl), (iS rfl), (lvI (by first | rfl | omega | (simp; done) | (simp; omega) | assumption)), trivial⟩
                  · exact ⟨(obE rfl rfl rfl), trivial⟩
                  · kernel_rfl
                · omega
    · skip
      refine D_exit ?_
      refine id (hK23 _ ?_)
      clear hK23; try clear K23
      refine D_seq fun K41 hK41 => ?_
      refine D_seq fun K42 hK42 => ?_
      refine D_region ?_
      refine DL_c (op_mv _ (rfl : _ = AV.sl _ _)) ?_
      refine DL_c (op_lenS _ inferInstance rfl) ?_
      first
        | refine DL_c (op_eql _ _ rfl rfl (by assumption)) ?_
        | refine DL_c (op_eql _ _ rfl rfl rfl) ?_
      refine DL_nil (hK42 _ ?_)
      clear hK42; try clear K42
      refine D_splitC rfl (fun hc146 => ?_) (fun hc146 => ?_)
      · skip
        exact absurd  hc146 (by omega)
      · skip
        obtain ⟨q, hq⟩ := Int.eq_ofNat_of_zero_le (around_lo other (upE Ps h).length (by omega))
        have hql : q < (upE Ps h).length := by have := around_hi other (upE Ps h).length (by omega); omega
        obtain ⟨v, hv⟩ : ∃ v, v = (upE Ps h).getD q 0 := ⟨_, rfl⟩
        have hvm : v ∈ upE Ps h := hv ▸ getD_mem (by omega)
        have hvn := hupt v hvm
        have hvl := upE_len Ps v
        refine D_skip (hK41 _ ?_)
        clear hK41; try clear K41
        refine D_seq fun K43 hK43 => ?_
        refine D_region ?_
        refine DL_c (op_mv _ (rfl : _ = AV.sl _ _)) ?_
        refine DL_c (op_mv _ (rfl : _ = AV.v (.int _ _))) ?_
        refine DL_c (op_mv _ (rfl : _ = AV.sl _ _)) ?_
        refine DL_c (op_lenS _ inferInstance rfl) ?_
        refine DL_c (op_callH inferInstance (by repeat' (first | exact argsLv_nil | refine argsLv_cons ?_ ?_ | exact Lv.v | exact lvI (by omega) | exact Lv.sl | exact Lv.fp | exact Lv.nil | refine Lv.agg rfl ?_ | refine Lv.fn rfl ?_ rfl ?_ | exact lv_nil | refine lv_cons ?_ ?_ | exact Lv.z0)) (hq ▸ around_spec other (upE Ps h).length (by omega) (by omega) ho0.1 ho0.2) rfl rfl) ?_
        first
          | refine DL_c (op_ixS _ _ inferInstance rfl rfl _ rfl (by omega) (by first | assumption | decide | (simp only [isl_len, bsl_len, psl_len, mrows_len, nsl_len, ws_len, List.length_map, ul_len, psl_len, isl_len, nrows_len, prL_len, blR_len, stK_len, inh1_len, st0_len, status32_len]; omega) | (simp; done) | (simp; omega) | (simp [isl, bsl]; omega)) (by first | exact Nat.mul_one _ | rfl | omega)) ?_
          | refine DL_c (op_ixS _ _ inferInstance rfl rfl (Int.toNat _) (Int.toNat_of_nonneg (by omega)).symm (by omega) (by first | assumption | decide | (simp only [isl_len, bsl_len, psl_len, mrows_len, nsl_len, ws_len, List.length_map, ul_len, psl_len, isl_len, nrows_len, prL_len, blR_len, stK_len, inh1_len, st0_len, status32_len]; omega) | (simp; done) | (simp; omega) | (simp [isl, bsl]; omega)) (by first | exact Nat.mul_one _ | rfl | omega)) ?_
        refine DL_c (op_ldF _ inferInstance rfl (by exact (nsl_get _ _ (by omega)).trans (by rw [← hv])) rfl) ?_
        refine DL_c (op_as _ (rfl : _ = AV.v (.int _ _))) ?_
        refine DL_nil (hK43 _ ?_)
        clear hK43; try clear K43
        refine D_seq fun K44 hK44 => ?_
        refine D_le (σ' := mkStI 192 [(10, _), (11, _), (14, _), (24, _)] [] [] []) (by
          refine Le.mkJ [] [] rfl ?_ ?_ trivial trivial ?_
          · exact ⟨(iS rfl), (iF rfl), (iS rfl), (iV rfl), trivial⟩
          · exact trivial
          · kernel_rfl) ?_
        refine D_region ?_
        refine DL_c (op_asN (25, 0) _ 77 2 rfl rfl) ?_
        refine DL_nil (hK44 _ ?_)
        clear hK44; try clear K44
        refine D_seq fun K45 hK45 => ?_
        refine D_seq fun K46 hK46 => ?_
        refine D_region ?_
        refine DL_c (op_as _ (rfl : _ = AV.v (.int _ _))) ?_
        refine DL_nil (hK46 _ ?_)
        clear hK46; try clear K46
        refine D_block ?_
        refine D_loopL (α := Nat) (fun c => c ≤ AL.length) 192 [(10, _), (11, _), (14, _), (24, _)] [] (fun c => [(26, .v (.int .i64 (c : Int))), (25, .ref (25, 0) 0 ((AL.take c).filter fun b => decide (b.1 ∈ upE Ps v)).length)]) (fun c => [((25, 0), .row 77 2 (blR ((AL.take c).filter fun b => decide (b.1 ∈ upE Ps v))))]) [] [] (fun c => AL.length - c) 0 ?_ (by
          refine Le.mkJ [] [] rfl ?_ ?_ trivial trivial ?_
          · exact ⟨(iS rfl), (iF rfl), (iS rfl), (iV rfl), (lvI (by first | rfl | omega | (simp; done) | (simp; omega) | assumption)), (lvRr rfl (by first | rfl | omega | (simp; done) | (simp; omega) | assumption)), trivial⟩
          · exact ⟨(obR rfl rfl rfl (by first | rfl | omega | (simp; done) | (simp; omega) | assumption)), trivial⟩
          · kernel_rfl) ?_
        · first | omega | trivial | exact ⟨by omega, by omega⟩
        intro c hc
        have hfl2 := List.length_filter_le (fun b => decide (b.1 ∈ upE Ps v)) (AL.take c)
        rw [List.length_take] at hfl2
        refine D_seq fun K47 hK47 => ?_
        refine D_seq fun K48 hK48 => ?_
        refine D_region ?_
        refine DL_c (op_mv _ (rfl : _ = AV.v (.int _ _))) ?_
        refine DL_c (op_mv _ (rfl : _ = AV.sl _ _)) ?_
        refine DL_c (op_lenS _ inferInstance rfl) ?_
        first
          | refine DL_c (op_lss _ _ rfl rfl (by assumption)) ?_
          | refine DL_c (op_lss _ _ rfl rfl rfl) ?_
        refine DL_nil (hK48 _ ?_)
        clear hK48; try clear K48
        refine D_splitC rfl (fun hc157 => ?_) (fun hc157 => ?_)
        · skip
          have hts : (AL.take (c + 1)).filter (fun b => decide (b.1 ∈ upE Ps v)) = (AL.take c).filter (fun b => decide (b.1 ∈ upE Ps v)) ++ if (AL.getD c (0, [])).1 ∈ upE Ps v then [AL.getD c (0, [])] else [] := by
            rw [take1 (0, []) (by omega), List.filter_append]
            congr 1
            simp only [List.filter_cons, List.filter_nil, decide_eq_true_eq]
          have hc2 := hA2 c
          refine D_skip (hK47 _ ?_)
          clear hK47; try clear K47
          refine D_seq fun K49 hK49 => ?_
          refine D_block ?_
          refine D_seq fun K50 hK50 => ?_
          refine D_le (σ' := mkStI 192 [(10, _), (11, _), (14, _), (24, _), (25, _), (26, _)] [((25, 0), _)] [] []) (by
            refine Le.mkJ [] [] rfl ?_ ?_ trivial trivial ?_
            · exact ⟨(iS rfl), (iF rfl), (iS rfl), (iV rfl), (iR rfl), (iV rfl), trivial⟩
            · exact ⟨(obE rfl rfl rfl), trivial⟩
            · kernel_rfl) ?_
          refine D_anyL 9 [160, 161, 162, 163, 164, 165, 166, 167, 168] [] (by kernel_rfl) (by kernel_rfl) rfl (nodupO_iff rfl) (rfl : _ = [_, _, _, _, _, _, _, _, _]) (rfl : _ = []) ?_
          refine any_c (_, []) (fun τ => op_mv _ (rfl : _ = AV.fp _ _)) ?_
          refine any_n (rfl : _ = [_]) ?_
          refine any_c (_, []) (fun τ => op_mv _ (rfl : _ = AV.v (.int _ _))) ?_
          refine any_n (rfl : _ = [_, _]) ?_
          refine any_c (_, []) (fun τ => (op_callH inferInstance (by repeat' (first | exact argsLv_nil | refine argsLv_cons ?_ ?_ | exact Lv.v | exact lvI (by omega) | exact Lv.sl | exact Lv.fp | exact Lv.nil | refine Lv.agg rfl ?_ | refine Lv.fn rfl ?_ rfl ?_ | exact lv_nil | refine lv_cons ?_ ?_ | exact Lv.z0)) (ancsN_spec hPn hn64 (parW Ps) v) rfl rfl)) ?_
          refine any_n (rfl : _ = [_, _, _]) ?_
          refine any_c (_, []) (fun τ => op_mv _ (rfl : _ = AV.sl _ _)) ?_
          refine any_n (rfl : _ = [_, _, _, _]) ?_
          refine any_c (_, []) (fun τ => op_mv _ (rfl : _ = AV.v (.int _ _))) ?_
          refine any_n (rfl : _ = [_, _, _, _, _]) ?_
          first
            | refine any_c (_, []) (fun τ => op_ixS _ _ inferInstance rfl rfl _ rfl (by omega) (by first | assumption | decide | (simp only [isl_len, bsl_len, psl_len, mrows_len, nsl_len, ws_len, List.length_map, ul_len, psl_len, isl_len, nrows_len, prL_len, blR_len, stK_len, inh1_len, st0_len, status32_len]; omega) | (simp; done) | (simp; omega) | (simp [isl, bsl]; omega)) (by first | exact Nat.mul_one _ | rfl | omega)) ?_
            | refine any_c (_, []) (fun τ => op_ixS _ _ inferInstance rfl rfl (Int.toNat _) (Int.toNat_of_nonneg (by omega)).symm (by omega) (by first | assumption | decide | (simp only [isl_len, bsl_len, psl_len, mrows_len, nsl_len, ws_len, List.length_map, ul_len, psl_len, isl_len, nrows_len, prL_len, blR_len, stK_len, inh1_len, st0_len, status32_len]; omega) | (simp; done) | (simp; omega) | (simp [isl, bsl]; omega)) (by first | exact Nat.mul_one _ | rfl | omega)) ?_
          refine any_n (rfl : _ = [_, _, _, _, _, _]) ?_
          first
            | refine any_c (_, []) (fun τ => op_fldP _ inferInstance rfl rfl rfl) ?_
            | refine any_c (_, []) (fun τ => op_fldF _ inferInstance rfl rfl) ?_
          refine any_n (rfl : _ = [_, _, _, _, _, _, _]) ?_
          refine any_c (_, []) (fun τ => op_ldF _ inferInstance rfl (by first | rfl | exact isl_get _ _ (by omega) | exact bsl_get _ _ (by omega) | assumption | exact isl_get _ _ (by omega) | exact nsl_get _ _ (by omega) | exact nrows_get _ _ (by omega) | exact blR_get0 _ _ (by omega) | exact blR_get1 _ _ (by omega)) rfl) ?_
          refine any_n (rfl : _ = [_, _, _, _, _, _, _, _]) ?_
          refine any_c (_, []) (fun τ => (op_callH inferInstance (by repeat' (first | exact argsLv_nil | refine argsLv_cons ?_ ?_ | exact Lv.v | exact lvI (by omega) | exact Lv.sl | exact Lv.fp | exact Lv.nil | refine Lv.agg rfl ?_ | refine Lv.fn rfl ?_ rfl ?_ | exact lv_nil | refine lv_cons ?_ ?_ | exact Lv.z0)) (hasNN_spec _ (upE Ps v) (AL.getD c (0, [])).1 rfl (by omega)) rfl rfl)) ?_
          refine any_n (rfl : _ = [_, _, _, _, _, _, _, _, _]) ?_
          refine any_end ⟨rfl, ?_⟩
          refine DL_nil (hK50 _ ?_)
          clear hK50; try clear K50
          refine D_splitC rfl (fun hc168 => ?_) (fun hc168 => ?_)
          · skip
            rw [if_pos hc168] at hts
            refine D_le (σ' := mkStI 192 [(10, _), (11, _), (14, _), (24, _), (25, _), (26, _)] [((25, 0), _)] [] []) (by
              refine Le.mkJ [] [] rfl ?_ ?_ trivial trivial ?_
              · exact ⟨(iS rfl), (iF rfl), (iS rfl), (iV rfl), (iR rfl), (iV rfl), trivial⟩
              · exact ⟨(obE rfl rfl rfl), trivial⟩
              · kernel_rfl) ?_
            refine D_anyL 13 [169, 170, 171, 172, 173, 174, 175, 176, 177, 178, 179, 180, 181] [] (by kernel_rfl) (by kernel_rfl) rfl (nodupO_iff rfl) (rfl : _ = [_, _, _, _, _, _, _, _, _, _, _, _, _]) (rfl : _ = [_, _]) ?_
            refine any_c (_, []) (fun τ => op_mv _ (rfl : _ = AV.ref _ _ _)) ?_
            refine any_n (rfl : _ = [_]) ?_
            refine any_c (_, []) (fun τ => op_mv _ (rfl : _ = AV.sl _ _)) ?_
            refine any_n (rfl : _ = [_, _]) ?_
            refine any_c (_, []) (fun τ => op_mv _ (rfl : _ = AV.v (.int _ _))) ?_
            refine any_n (rfl : _ = [_, _, _]) ?_
            first
              | refine any_c (_, []) (fun τ => op_ixS _ _ inferInstance rfl rfl _ rfl (by omega) (by first | assumption | decide | (simp only [isl_len, bsl_len, psl_len, mrows_len, nsl_len, ws_len, List.length_map, ul_len, psl_len, isl_len, nrows_len, prL_len, blR_len, stK_len, inh1_len, st0_len, status32_len]; omega) | (simp; done) | (simp; omega) | (simp [isl, bsl]; omega)) (by first | exact Nat.mul_one _ | rfl | omega)) ?_
              | refine any_c (_, []) (fun τ => op_ixS _ _ inferInstance rfl rfl (Int.toNat _) (Int.toNat_of_nonneg (by omega)).symm (by omega) (by first | assumption | decide | (simp only [isl_len, bsl_len, psl_len, mrows_len, nsl_len, ws_len, List.length_map, ul_len, psl_len, isl_len, nrows_len, prL_len, blR_len, stK_len, inh1_len, st0_len, status32_len]; omega) | (simp; done) | (simp; omega) | (simp [isl, bsl]; omega)) (by first | exact Nat.mul_one _ | rfl | omega)) ?_
            refine any_n (rfl : _ = [_, _, _, _]) ?_
            first
              | refine any_c (_, []) (fun τ => op_fldP _ inferInstance rfl rfl rfl) ?_
              | refine any_c (_, []) (fun τ => op_fldF _ inferInstance rfl rfl) ?_
            refine any_n (rfl : _ = [_, _, _, _, _]) ?_
            refine any_c (_, []) (fun τ => op_ldF _ inferInstance rfl (by first | rfl | exact isl_get _ _ (by omega) | exact bsl_get _ _ (by omega) | assumption | exact isl_get _ _ (by omega) | exact nsl_get _ _ (by omega) | exact nrows_get _ _ (by omega) | exact blR_get0 _ _ (by omega) | exact blR_get1 _ _ (by omega)) rfl) ?_
            refine any_n (rfl : _ = [_, _, _, _, _, _]) ?_
            refine any_c (_, []) (fun τ => op_mv _ (rfl : _ = AV.sl _ _)) ?_
            refine any_n (rfl : _ = [_, _, _, _, _, _, _]) ?_
            refine any_c (_, []) (fun τ => op_mv _ (rfl : _ = AV.v (.int _ _))) ?_
            refine any_n (rfl : _ = [_, _, _, _, _, _, _, _]) ?_
            first
              | refine any_c (_, []) (fun τ => op_ixS _ _ inferInstance rfl rfl _ rfl (by omega) (by first | assumption | decide | (simp only [isl_len, bsl_len, psl_len, mrows_len, nsl_len, ws_len, List.length_map, ul_len, psl_len, isl_len, nrows_len, prL_len, blR_len, stK_len, inh1_len, st0_len, status32_len]; omega) | (simp; done) | (simp; omega) | (simp [isl, bsl]; omega)) (by first | exact Nat.mul_one _ | rfl | omega)) ?_
              | refine any_c (_, []) (fun τ => op_ixS _ _ inferInstance rfl rfl (Int.toNat _) (Int.toNat_of_nonneg (by omega)).symm (by omega) (by first | assumption | decide | (simp only [isl_len, bsl_len, psl_len, mrows_len, nsl_len, ws_len, List.length_map, ul_len, psl_len, isl_len, nrows_len, prL_len, blR_len, stK_len, inh1_len, st0_len, status32_len]; omega) | (simp; done) | (simp; omega) | (simp [isl, bsl]; omega)) (by first | exact Nat.mul_one _ | rfl | omega)) ?_
            refine any_n (rfl : _ = [_, _, _, _, _, _, _, _, _]) ?_
            first
              | refine any_c (_, []) (fun τ => op_fldP _ inferInstance rfl rfl rfl) ?_
              | refine any_c (_, []) (fun τ => op_fldF _ inferInstance rfl rfl) ?_
            refine any_n (rfl : _ = [_, _, _, _, _, _, _, _, _, _]) ?_
            refine any_c (_, []) (fun τ => op_ldF _ inferInstance rfl (by first | rfl | exact isl_get _ _ (by omega) | exact bsl_get _ _ (by omega) | assumption | exact isl_get _ _ (by omega) | exact nsl_get _ _ (by omega) | exact nrows_get _ _ (by omega) | exact blR_get0 _ _ (by omega) | exact blR_get1 _ _ (by omega)) rfl) ?_
            refine any_n (rfl : _ = [_, _, _, _, _, _, _, _, _, _, _]) ?_
            refine any_c (_, []) (fun τ => op_build (ys := [.v (.int .i64 (((AL.getD c (0, [])).1 : Nat) : Int)), .sl (AL.getD c (0, [])).2.length (nsl (AL.getD c (0, [])).2)]) _ inferInstance rfl rfl) ?_
            refine any_n (rfl : _ = [_, _, _, _, _, _, _, _, _, _, _, _]) ?_
            refine any_c (_, []) (fun τ => op_bsF _ _ inferInstance rfl (by rfl) (by simp <;> rfl) (by decide) rfl) ?_
            refine any_n (rfl : _ = [_, _, _, _, _, _, _, _, _, _, _, _, _]) ?_
            refine any_end ⟨rfl, ?_⟩
            refine DL_c (op_ap (182, 0) _ _ inferInstance rfl rfl (by first | rfl | omega | (simp only [isl_len, bsl_len, psl_len, mrows_len, nsl_len, ws_len, List.length_map, ul_len, psl_len, isl_len, nrows_len, prL_len, blR_len, stK_len, inh1_len, st0_len, status32_len]; omega) | (simp; done) | (simp; omega)) (by first | exact .nil | (refine .sl ?_; first | (simp [isl]; done) | (simp [isl]; omega)) | (refine .ref rfl rfl ?_; first | (simp; done) | (simp; omega))) (by omega) rfl (rfl) (rfl)) ?_
            refine DL_c (op_as _ (rfl : _ = AV.ref _ _ _)) ?_
            refine DL_nil (hK49 _ ?_)
            clear hK49; try clear K49
            refine D_le (σ' := mkStI 192 [(10, _), (11, _), (14, _), (24, _), (25, _), (26, _)] [((182, 0), _)] [] []) (by
              refine Le.mkJ [] [] rfl ?_ ?_ trivial trivial ?_
              · exact ⟨(iS rfl), (iF rfl), (iS rfl), (iV rfl), (iR rfl), (iV rfl), trivial⟩
              · exact ⟨(obE rfl rfl rfl), trivial⟩
              · kernel_rfl) ?_
            refine D_region ?_
            refine DL_c (op_mv _ (rfl : _ = AV.v (.int _ _))) ?_
            first
              | refine DL_c (op_add _ _ rfl rfl (i64w (by omega))) ?_
              | refine DL_c (op_add _ _ rfl rfl rfl) ?_
            refine DL_c (op_as _ (rfl : _ = AV.v (.int _ _))) ?_
            refine DL_nil ?_
            refine ⟨c + 1, ?_, ?_, ?_⟩
            · first | omega | trivial | exact ⟨by omega, by omega⟩
            · skip
              refine Le.mkJ [((25, 0), (182, 0))] [] rfl ?_ ?_ trivial trivial ?_
              · exact ⟨(by repeat' (first | exact Lv.v | exact Lv.sl | exact Lv.fp | exact lvRr (id := (25, 0)) rfl rfl | exact lvPr (id := (25, 0)) rfl | exact lvRr rfl rfl | exact lvPr rfl | exact Lv.mp | exact Lv.nil | exact Lv.z | exact Lv.dead | refine Lv.agg rfl ?_ | refine Lv.fn rfl ?_ rfl ?_ | refine Lv.tup rfl ?_ | refine Lv.ifc ?_ | exact lv_nil | refine lv_cons ?_ ?_)), (by repeat' (first | exact Lv.v | exact Lv.sl | exact Lv.fp | exact lvRr (id := (25, 0)) rfl rfl | exact lvPr (id := (25, 0)) rfl | exact lvRr rfl rfl | exact lvPr rfl | exact Lv.mp | exact Lv.nil | exact Lv.z | exact Lv.dead | refine Lv.agg rfl ?_ | refine Lv.fn rfl ?_ rfl ?_ | refine Lv.tup rfl ?_ | refine Lv.ifc ?_ | exact lv_nil | refine lv_cons ?_ ?_)), (by repeat' (first | exact Lv.v | exact Lv.sl | exact Lv.fp | exact lvRr (id := (25, 0)) rfl rfl | exact lvPr (id := (25, 0)) rfl | exact lvRr rfl rfl | exact lvPr rfl | exact Lv.mp | exact Lv.nil | exact Lv.z | exact Lv.dead | refine Lv.agg rfl ?_ | refine Lv.fn rfl ?_ rfl ?_ | refine Lv.tup rfl ?_ | refine Lv.ifc ?_ | exact lv_nil | refine lv_cons ?_ ?_)), (by repeat' (first | exact Lv.v | exact Lv.sl | exact Lv.fp | exact lvRr (id := (25, 0)) rfl rfl | exact lvPr (id := (25, 0)) rfl | exact lvRr rfl rfl | exact lvPr rfl | exact Lv.mp | exact Lv.nil | exact Lv.z | exact Lv.dead | refine Lv.agg rfl ?_ | refine Lv.fn rfl ?_ rfl ?_ | refine Lv.tup rfl ?_ | refine Lv.ifc ?_ | exact lv_nil | refine lv_cons ?_ ?_)), (lvI (by first | rfl | omega | (first | (rw [hts, List.length_append]; rfl) | (rw [hts, ← blR_app])) | (simp; done) | (simp; omega) | assumption)), (lvRr rfl (by first | rfl | omega | (first | (rw [hts, List.length_append]; rfl) | (rw [hts, ← blR_app])) | (simp; done) | (simp; omega) | assumption)), trivial⟩
              · exact ⟨(obR rfl rfl rfl (by first | rfl | omega | (first | (rw [hts, List.length_append]; rfl) | (rw [hts, ← blR_app])) | (simp; done) | (simp; omega) | assumption)), trivial⟩
              · kernel_rfl
            · omega
          · skip
            rw [if_neg hc168, List.append_nil] at hts
            refine D_skip (hK49 _ ?_)
            clear hK49; try clear K49
            refine D_region ?_
            refine DL_c (op_mv _ (rfl : _ = AV.v (.int _ _))) ?_
            first
              | refine DL_c (op_add _ _ rfl rfl (i64w (by omega))) ?_
              | refine DL_c (op_add _ _ rfl rfl rfl) ?_
            refine DL_c (op_as _ (rfl : _ = AV.v (.int _ _))) ?_
            refine DL_nil ?_
            refine ⟨c + 1, ?_, ?_, ?_⟩
            · first | omega | trivial | exact ⟨by omega, by omega⟩
            · skip
              refine Le.mkJ [] [] rfl ?_ ?_ trivial trivial ?_
              · exact ⟨(iS rfl), (iF rfl), (iS rfl), (iV rfl), (lvI (by first | rfl | omega | (rw [hts]) | (simp; done) | (simp; omega) | assumption)), (lvRr rfl (by first | rfl | omega | (rw [hts]) | (simp; done) | (simp; omega) | assumption)), trivial⟩
              · exact ⟨(obR rfl rfl rfl (by first | rfl | omega | (rw [hts]) | (simp; done) | (simp; omega) | assumption)), trivial⟩
              · kernel_rfl
            · omega
        · skip
          have hfin : minL n (edg Ps n 0) st (upE Ps v) = (AL.take c).filter (fun b => decide (b.1 ∈ upE Ps v)) := by rw [hfl v hvm, List.take_of_length_le (by omega)]
          have hf2 := getD_filter2 (p := fun b => decide (b.1 ∈ upE Ps v)) (l := AL.take c) fun b hb => by
            obtain ⟨k, hk, hke⟩ := List.getElem_of_mem (List.mem_of_mem_take hb)
            have := hA2 k
            rw [List.getD_eq_getElem?_getD, List.getElem?_eq_getElem hk, Option.getD_some, hke] at this
            exact this
          have hMv := minN_spec hG st hst v
          rw [hfin] at hMv
          refine D_exit ?_
          refine id (hK45 _ ?_)
          clear hK45; try clear K45
          refine D_seq fun K51 hK51 => ?_
          refine D_region ?_
          refine DL_c (op_mv _ (rfl : _ = AV.fp _ _)) ?_
          refine DL_c (op_mv _ (rfl : _ = AV.v (.int _ _))) ?_
          refine DL_c (op_mv _ (rfl : _ = AV.sl _ _)) ?_
          refine DL_c (op_callH inferInstance (by repeat' (first | exact argsLv_nil | refine argsLv_cons ?_ ?_ | exact Lv.v | exact lvI (by omega) | exact Lv.sl | exact Lv.fp | exact Lv.nil | refine Lv.agg rfl ?_ | refine Lv.fn rfl ?_ rfl ?_ | exact lv_nil | refine lv_cons ?_ ?_ | exact Lv.z0)) (hMv) rfl rfl) ?_
          refine DL_c (op_mv _ (rfl : _ = AV.ref _ _ _)) ?_
          refine DL_c (op_callBH inferInstance (by repeat' (first | exact argsLv_nil | refine argsLv_cons ?_ ?_ | exact Lv.v | exact lvI (by omega) | exact Lv.sl | exact Lv.fp | exact Lv.nil | refine Lv.agg rfl ?_ | refine Lv.fn rfl ?_ rfl ?_ | exact lv_nil | refine lv_cons ?_ ?_ | (refine frz0 rfl rfl ?_ rfl; first | (simp; done) | (simp; omega) | omega) | exact Lv.frzP rfl rfl rfl)) (samebl_spec _ _ _ ((AL.take c).filter fun b => decide (b.1 ∈ upE Ps v)) rfl rfl (by omega) (by omega) hf2 hf2) rfl) ?_
          refine DL_c (op_mv _ (rfl : _ = AV.v (.bool _))) ?_
          refine DL_caseC (fun hg189 => ?_) (fun hg189 => ?_)
          · skip
            refine DL_cy rfl rfl (op_callH inferInstance (by repeat' (first | exact argsLv_nil | refine argsLv_cons ?_ ?_ | exact Lv.v | exact lvI (by omega) | exact Lv.sl | exact Lv.fp | exact Lv.nil | refine Lv.agg rfl ?_ | refine Lv.fn rfl ?_ rfl ?_ | exact lv_nil | refine lv_cons ?_ ?_ | exact Lv.z0)) (livesv_spec) rfl rfl) ?_
            refine DL_c (op_pick _ _ _ rfl (rfl : _ = AV.v (.bool _))) ?_
            refine DL_c (op_as _ (rfl : _ = AV.v (.bool _))) ?_
            refine DL_nil (hK51 _ ?_)
            clear hK51; try clear K51
            refine D_ret ?_
            refine ret1 (.inr rfl) rfl (.tmp (rfl : _ = AV.v (.bool _))) (Le.out [] [] (lvB ?_) rfl rfl rfl trivial trivial)
            rfl
          · skip
            refine DL_cn rfl rfl (by decide) ?_
            refine DL_c (op_pick _ _ _ rfl (rfl : _ = AV.v (.bool _))) ?_
            refine DL_c (op_as _ (rfl : _ = AV.v (.bool _))) ?_
            refine DL_nil (hK51 _ ?_)
            clear hK51; try clear K51
            refine D_ret ?_
            exact absurd hg189 (by simp)
end Go.Proofs.Ytkbkmngbenohkaa
