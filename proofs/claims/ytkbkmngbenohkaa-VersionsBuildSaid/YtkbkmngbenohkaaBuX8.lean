/- The law VersionsBuild by the machine. -/
import Derived.Test.YtkbkmngbenohkaaBuV12
import Derived.Test.YtkbkmngbenohkaaM9
set_option linter.unusedSimpArgs false
set_option linter.unusedVariables false
namespace Go.Proofs.Ytkbkmngbenohkaa
open Go.RowKit

theorem intsk_own (m : Nat) (l : List Int) (hm : l.length = m) (k : Nat) (hk : k ≤ 1000) :
    Spec Try.prog 38 (inSt [.sl m (isl l), .v (.int .i64 (k : Int))] []) (outSt (.ref (0, 8) 0 (min m k)) [((0, 8), .row 3 1 (isl (l.take (min m k))))]) := by
  have e1 : min (m : Int) (k : Int) = ((min m k : Nat) : Int) := by omega
  refine Spec.ofN Try.func38 rfl Try.ntmps38 rfl ?_
  refine D_seq fun K1 hK1 => ?_
  refine D_region ?_
  first
    | refine DL_c (op_as _ (rfl : _ = AV.sl _ _)) ?_
    | refine DL_c (op_as _ (rfl : _ = AV.ref _ _ _)) ?_
    | refine DL_c (op_as _ (rfl : _ = AV.v (.slice _ _ _))) ?_
    | refine DL_c (op_as _ (rfl : _ = AV.z)) ?_
  refine DL_nil (hK1 _ ?_)
  clear hK1; try clear K1
  refine D_seq fun K2 hK2 => ?_
  refine D_region ?_
  first
    | refine DL_c (op_as _ (rfl : _ = AV.sl _ _)) ?_
    | refine DL_c (op_as _ (rfl : _ = AV.ref _ _ _)) ?_
    | refine DL_c (op_as _ (rfl : _ = AV.v (.slice _ _ _))) ?_
    | refine DL_c (op_as _ (rfl : _ = AV.z)) ?_
  refine DL_nil (hK2 _ ?_)
  clear hK2; try clear K2
  refine D_seq fun K3 hK3 => ?_
  refine D_region ?_
  first
    | refine DL_c (op_mv _ (rfl : _ = AV.sl _ _)) ?_
    | refine DL_c (op_mv _ (rfl : _ = AV.ref _ _ _)) ?_
    | refine DL_c (op_mv _ (rfl : _ = AV.v (.slice _ _ _))) ?_
    | refine DL_c (op_mv _ (rfl : _ = AV.z)) ?_
  refine DL_c (op_mv _ (rfl : _ = AV.sl _ _)) ?_
  refine DL_c (op_mv _ (rfl : _ = AV.sl _ _)) ?_
  refine DL_c (op_lenS _ inferInstance rfl) ?_
  refine DL_c (op_mv _ (rfl : _ = AV.v (.int _ _))) ?_
  refine DL_c (op_min _ _ rfl rfl e1) ?_
  refine DL_c (op_slS _ _ _ inferInstance rfl 0 _ .dflt (.lit rfl rfl) (by omega) (by omega) (by first | exact isl_pre _ _ | exact psl_pre _ _ | exact bsl_pre _ _) (Nat.sub_zero _)) ?_
  refine DL_c (op_ap0 (13, 0) _ _ inferInstance rfl (.sl (by rw [isl_len, List.length_take]; omega)) (by omega) rfl) ?_
  refine DL_c (op_as _ (rfl : _ = AV.ref _ _ _)) ?_
  refine DL_nil (hK3 _ ?_)
  clear hK3; try clear K3
  refine D_ret ?_
  exact ret1 (.inr rfl) rfl (.tmp (rfl : _ = AV.ref _ _ _)) (Le.out [((0, 8), (13, 0))] [] (lvRr rfl (by first | rfl | omega | simp)) rfl rfl rfl trivial ⟨⟨rfl, ⟨_, rfl, .rowE (by first | rfl | simp)⟩, rfl⟩, trivial⟩)
theorem ints4_own (r : List Int) : Spec Try.prog 38 (inSt [.sl r.length (isl r), .v (.int .i64 4)] []) (outSt (.ref (0, 8) 0 (r.take 4).length) [((0, 8), .row 3 1 (isl (r.take 4)))]) := by
  have h := intsk_own r.length r rfl 4 (by omega)
  have e : r.take (min r.length 4) = r.take 4 := by
    by_cases h : r.length ≤ 4
    · rw [Nat.min_eq_left h, List.take_length, List.take_of_length_le h]
    · rw [Nat.min_eq_right (by omega)]
  rw [e, show min r.length 4 = (r.take 4).length by rw [List.length_take]; omega] at h
  exact h
theorem ints4_spec (r : List Int) : Spec Try.prog 38 (inSt [.sl r.length (isl r), .v (.int .i64 4)] []) (outSt (.sl (r.take 4).length (isl (r.take 4))) []) := (ints4_own r).frz (by rw [isl_len]; omega)
theorem nrows_put (L : List (List Int)) (k : Nat) (r : List Int) (h : k < L.length) : putL (nrows L) k [.sl r.length (isl r)] = nrows (L.set k r) := by
  rw [putL_one _ _ _ (by simpa using h)]; simp [nrows, List.map_set]
theorem nrows_nils (k : Nat) : nrows (List.replicate k []) = List.replicate k (.sl 0 []) := by simp [nrows, isl]
theorem rep_nils (n : Nat) : (rep n [Value.slice none 0 0]).map PV.v = List.replicate n (.v (.slice none 0 0)) := by rw [rep_one]; simp
def qrow2 (B : List (Nat × List (List Int))) : List PV := B.map fun b => .sl b.1 (nrows b.2)
theorem qrow2_get (B : List (Nat × List (List Int))) (i : Nat) (h : i < B.length) : (qrow2 B)[i]? = some (.sl (B.getD i (0, [])).1 (nrows (B.getD i (0, [])).2)) := by simp [qrow2, h]
theorem parm_spec {Q : List (List Int)} (hG : GG Q.length Q) (v : Int) : Spec Try.prog 65 (inSt [.fp 0 (gra Q.length (parW Q) (ancW Q.length (edg Q Q.length 0))), .v (.int .i64 v)] []) (outSt (.sl (wat Q.length (parW Q) v).length (nsl (wat Q.length (parW Q) v))) []) :=
  parents_spec _ _ _ (parW_len Q) hG.n64 (parW_lt hG.V hG.n64) v
theorem ancm_spec {Q : List (List Int)} (hG : GG Q.length Q) (v : Int) : Spec Try.prog 60 (inSt [.fp 0 (gra Q.length (parW Q) (ancW Q.length (edg Q Q.length 0))), .v (.int .i64 v)] []) (outSt (.sl (wat Q.length (ancW Q.length (edg Q Q.length 0)) v).length (nsl (wat Q.length (ancW Q.length (edg Q Q.length 0)) v))) []) :=
  ancestors_spec _ _ _ (ancW_len _ _) hG.n64 (ancW_lt hG.n64 _) v
theorem parm_no {Q : List (List Int)} (hG : GG Q.length Q) : Spec Try.prog 65 (inSt [.fp 0 (gra Q.length (parW Q) (ancW Q.length (edg Q Q.length 0))), .v (.int .i64 (-1))] []) (outSt (.sl 0 (nsl [])) []) := by
  have h := parm_spec hG (-1)
  rw [show wat Q.length (parW Q) (-1) = [] from if_neg (by omega)] at h
  exact h
theorem ancm_no {Q : List (List Int)} (hG : GG Q.length Q) : Spec Try.prog 60 (inSt [.fp 0 (gra Q.length (parW Q) (ancW Q.length (edg Q Q.length 0))), .v (.int .i64 (Q.length : Int))] []) (outSt (.sl 0 (nsl [])) []) := by
  have h := ancm_spec hG Q.length
  rw [show wat Q.length (ancW Q.length (edg Q Q.length 0)) (Q.length : Int) = [] from if_neg (by omega)] at h
  exact h
theorem ranc_wat {Q : List (List Int)} (hG : GG Q.length Q) (v : Int) : Spec Try.prog 66 (inSt [.sl Q.length (nrows Q), .v (.int .i64 v)] []) (outSt (.sl (wat Q.length (ancW Q.length (edg Q Q.length 0)) v).length (nsl (wat Q.length (ancW Q.length (edg Q Q.length 0)) v))) []) := by
  have h := rancestors_spec Q.length Q rfl (by have := hG.n64; omega) hG.V (fun v => by have := hG.m v; omega) v
  rw [rat_els hG.V hG.n64 v, List.length_map] at h
  exact h
theorem sameNN (l : List Nat) (h : l.length ≤ 1000) : Spec Try.prog 40 (inSt [.sl l.length (nsl l), .sl l.length (nsl l)] []) (outSt (.v (.bool true)) []) := by
  have := same_spec l.length l.length (l.map fun (x : Nat) => (x : Int)) (l.map fun (x : Nat) => (x : Int)) (by simp) (by simp) (by omega) (by omega)
  rw [decide_eq_true rfl] at this
  exact this
theorem same_par {Q : List (List Int)} (hG : GG Q.length Q) {u : Nat} (hu : u < Q.length) : Spec Try.prog 40 (inSt [.sl (wat Q.length (parW Q) (u : Int)).length (nsl (wat Q.length (parW Q) (u : Int))), .sl (Q.getD u []).length (isl (ssrt (Q.getD u [])))] []) (outSt (.v (.bool true)) []) := by
  have h1 := wat_len (n := Q.length) (parW Q) (u : Int)
  have h2 := hG.m u
  have := same_spec (wat Q.length (parW Q) (u : Int)).length (Q.getD u []).length ((wat Q.length (parW Q) (u : Int)).map fun (x : Nat) => (x : Int)) (ssrt (Q.getD u [])) (by simp) (ssrt_len _) (by omega) (by omega)
  rw [decide_eq_true (par_sorted hG hu)] at this
  exact this
set_option maxHeartbeats 4000000 in
/-- The checks on all four. -/
theorem build_law (mr : Nat) (raw : List (List Int)) (hmr : raw.length = mr) (h0 : mr ≤ 4611686018427387904) (m : Nat) (l : List Int) (hm : l.length = m) (h1 : m ≤ 4611686018427387904) (hr : Rng l)
    (v p many : Int) (hv0 : -9223372036854775808 ≤ v ∧ v ≤ 9223372036854775807) (hp0 : -9223372036854775808 ≤ p ∧ p ≤ 9223372036854775807) (hm0 : -9223372036854775808 ≤ many ∧ many ≤ 9223372036854775807) :
    Spec Try.prog 16 (inSt [.sl mr (nrows raw), .sl m (isl l), .v (.int .i64 v), .v (.int .i64 p), .v (.int .i64 many)] []) (outSt (.v (.bool true)) []) := by
  have hP := par32_spec m l hm h1 hr
  have hN := par32_near l
  obtain ⟨hn1, hn2⟩ := prM_pos l
  have hPn := par32_len l
  generalize par32 l = Ps at hP hN hPn
  generalize prM l = n at hP hPn hn1 hn2
  obtain ⟨k, hk⟩ := Int.eq_ofNat_of_zero_le (around_lo v n (by omega))
  have hkn : k < n := by have := around_hi v n (by omega); omega
  have hx0 := around_lo p ((n : Int) + 2) (by omega)
  have hx1 := around_hi p ((n : Int) + 2) (by omega)
  generalize hx : around p ((n : Int) + 2) = x at hx0 hx1
  obtain ⟨q, hq⟩ := Int.eq_ofNat_of_zero_le (around_lo many 10 (by omega))
  have hq10 : q < 10 := by have := around_hi many 10 (by omega); omega
  have hnr : (nrows raw).length = mr := by simp [hmr]
  have hnp : (nrows Ps).length = n := by simp [hPn]
  refine Spec.ofN Try.func16 rfl Try.ntmps16 rfl ?_
  refine D_seq fun K1 hK1 => ?_
  refine D_region ?_
  refine DL_c (op_as _ (rfl : _ = AV.v (.bool _))) ?_
  refine DL_nil (hK1 _ ?_)
  clear hK1; try clear K1
  refine D_seq fun K2 hK2 => ?_
  refine D_region ?_
  refine DL_c (op_asN (11, 0) _ 29 1 rfl rfl) ?_
  refine DL_nil (hK2 _ ?_)
  clear hK2; try clear K2
  refine D_seq fun K3 hK3 => ?_
  refine D_seq fun K4 hK4 => ?_
  refine D_region ?_
  refine DL_c (op_as _ (rfl : _ = AV.v (.int _ _))) ?_
  refine DL_nil (hK4 _ ?_)
  clear hK4; try clear K4
  refine D_block ?_
  refine D_loopL (α := Nat) (fun i => i ≤ 8 ∧ i ≤ mr) 178 [(0, _), (1, _), (2, _), (3, _), (4, _)] [] (fun i => [(12, .v (.int .i64 (i : Int))), (11, .ref (11, 0) 0 i)]) (fun i => [((11, 0), .row 29 1 (nrows (fewL raw i)))]) [] [] (fun i => 8 - i) 0 ?_ (by
    refine Le.mkJ [] [] rfl ?_ ?_ trivial trivial ?_
    · exact ⟨(iS rfl), (iS rfl), (iV rfl), (iV rfl), (iV rfl), (lvI (by first | rfl | omega | (simp; done) | (simp; omega) | assumption)), (lvRr rfl (by first | rfl | omega | (simp; done) | (simp; omega) | assumption)), trivial⟩
    · exact ⟨(obR rfl rfl rfl (by first | rfl | omega | (simp; done) | (simp; omega) | assumption)), trivial⟩
    · kernel_rfl) ?_
  · exact ⟨by omega, by omega⟩
  intro i hi
  have hfl := fewL_len raw (i := i) (by omega)
  refine D_seq fun K5 hK5 => ?_
  refine D_seq fun K6 hK6 => ?_
  refine D_region ?_
  refine DL_c (op_mv _ (rfl : _ = AV.v (.int _ _))) ?_
  refine DL_c (op_mv _ (rfl : _ = AV.sl _ _)) ?_
  refine DL_c (op_lenS _ inferInstance rfl) ?_
  first
    | refine DL_c (op_lss _ _ rfl rfl (by assumption)) ?_
    | refine DL_c (op_lss _ _ rfl rfl rfl) ?_
  refine DL_c (op_mv _ (rfl : _ = AV.v (.bool _))) ?_
  refine DL_caseC (fun hg26 => ?_) (fun hg26 => ?_)
  · skip
    refine DL_cy rfl rfl (op_mv _ (rfl : _ = AV.v (.int _ _))) ?_
    first
      | refine DL_cy rfl rfl (op_lss _ _ rfl rfl (by assumption)) ?_
      | refine DL_cy rfl rfl (op_lss _ _ rfl rfl rfl) ?_
    refine DL_c (op_pick _ _ _ rfl (rfl : _ = AV.v (.bool _))) ?_
    refine DL_nil (hK6 _ ?_)
    clear hK6; try clear K6
    refine D_splitC rfl (fun hc29 => ?_) (fun hc29 => ?_)
    · skip
      have hfs := fewL_succ (raw := raw) (i := i) (by omega)
      refine D_skip (hK5 _ ?_)
      clear hK5; try clear K5
      refine D_seq fun K7 hK7 => ?_
      refine D_block ?_
      refine D_region ?_
      refine DL_c (op_mv _ (rfl : _ = AV.ref _ _ _)) ?_
      refine DL_c (op_mv _ (rfl : _ = AV.sl _ _)) ?_
      refine DL_c (op_mv _ (rfl : _ = AV.v (.int _ _))) ?_
      refine DL_c (op_ixS _ _ inferInstance rfl rfl i rfl (by omega) (by omega) (Nat.mul_one _)) ?_
      refine DL_c (op_ldF _ inferInstance rfl (by exact nrows_get _ _ (by omega)) rfl) ?_
      refine DL_c (op_callH inferInstance (by repeat' (first | exact argsLv_nil | refine argsLv_cons ?_ ?_ | exact Lv.v | exact lvI (by omega) | exact Lv.sl | exact Lv.fp | exact Lv.nil | refine Lv.agg rfl ?_ | refine Lv.fn rfl ?_ rfl ?_ | exact lv_nil | refine lv_cons ?_ ?_ | exact Lv.z0)) (ints4_spec (raw.getD i [])) rfl rfl) ?_
      refine DL_c (op_bsF _ _ inferInstance rfl (by rfl) (by simp <;> rfl) (by decide) rfl) ?_
      refine DL_c (op_ap (39, 0) _ _ inferInstance rfl rfl (by first | rfl | omega | (simp only [isl_len, bsl_len, psl_len, mrows_len, nsl_len, ws_len, List.length_map, ul_len, psl_len, isl_len, nrows_len, prL_len]; omega) | (simp; done) | (simp; omega)) (by first | exact .nil | (refine .sl ?_; first | (simp [isl]; done) | (simp [isl]; omega)) | (refine .ref rfl rfl ?_; first | (simp; done) | (simp; omega))) (by omega) rfl (rfl) (rfl)) ?_
      refine DL_c (op_as _ (rfl : _ = AV.ref _ _ _)) ?_
      refine DL_nil (hK7 _ ?_)
      clear hK7; try clear K7
      refine D_le (σ' := mkStI 178 [(0, _), (1, _), (2, _), (3, _), (4, _), (11, _), (12, _)] [((39, 0), _)] [] []) (by
        refine Le.mkJ [] [] rfl ?_ ?_ trivial trivial ?_
        · exact ⟨(iS rfl), (iS rfl), (iV rfl), (iV rfl), (iV rfl), (iR rfl), (iV rfl), trivial⟩
        · exact ⟨(obE rfl rfl rfl), trivial⟩
        · kernel_rfl) ?_
      refine D_region ?_
      refine DL_c (op_mv _ (rfl : _ = AV.v (.int _ _))) ?_
      first
        | refine DL_c (op_add _ _ rfl rfl (i64w (by omega))) ?_
        | refine DL_c (op_add _ _ rfl rfl rfl) ?_
      refine DL_c (op_as _ (rfl : _ = AV.v (.int _ _))) ?_
      refine DL_nil ?_
      refine ⟨i + 1, ?_, ?_, ?_⟩
      · first | omega | trivial | exact ⟨by omega, by omega⟩
      · skip
        refine Le.mkJ [((11, 0), (39, 0))] [] rfl ?_ ?_ trivial trivial ?_
        · exact ⟨(by repeat' (first | exact Lv.v | exact Lv.sl | exact Lv.fp | exact lvRr (id := (11, 0)) rfl rfl | exact lvPr (id := (11, 0)) rfl | exact lvRr rfl rfl | exact lvPr rfl | exact Lv.mp | exact Lv.nil | exact Lv.z | exact Lv.dead | refine Lv.agg rfl ?_ | refine Lv.fn rfl ?_ rfl ?_ | refine Lv.tup rfl ?_ | refine Lv.ifc ?_ | exact lv_nil | refine lv_cons ?_ ?_)), (by repeat' (first | exact Lv.v | exact Lv.sl | exact Lv.fp | exact lvRr (id := (11, 0)) rfl rfl | exact lvPr (id := (11, 0)) rfl | exact lvRr rfl rfl | exact lvPr rfl | exact Lv.mp | exact Lv.nil | exact Lv.z | exact Lv.dead | refine Lv.agg rfl ?_ | refine Lv.fn rfl ?_ rfl ?_ | refine Lv.tup rfl ?_ | refine Lv.ifc ?_ | exact lv_nil | refine lv_cons ?_ ?_)), (by repeat' (first | exact Lv.v | exact Lv.sl | exact Lv.fp | exact lvRr (id := (11, 0)) rfl rfl | exact lvPr (id := (11, 0)) rfl | exact lvRr rfl rfl | exact lvPr rfl | exact Lv.mp | exact Lv.nil | exact Lv.z | exact Lv.dead | refine Lv.agg rfl ?_ | refine Lv.fn rfl ?_ rfl ?_ | refine Lv.tup rfl ?_ | refine Lv.ifc ?_ | exact lv_nil | refine lv_cons ?_ ?_)), (by repeat' (first | exact Lv.v | exact Lv.sl | exact Lv.fp | exact lvRr (id := (11, 0)) rfl rfl | exact lvPr (id := (11, 0)) rfl | exact lvRr rfl rfl | exact lvPr rfl | exact Lv.mp | exact Lv.nil | exact Lv.z | exact Lv.dead | refine Lv.agg rfl ?_ | refine Lv.fn rfl ?_ rfl ?_ | refine Lv.tup rfl ?_ | refine Lv.ifc ?_ | exact lv_nil | refine lv_cons ?_ ?_)), (by repeat' (first | exact Lv.v | exact Lv.sl | exact Lv.fp | exact lvRr (id := (11, 0)) rfl rfl | exact lvPr (id := (11, 0)) rfl | exact lvRr rfl rfl | exact lvPr rfl | exact Lv.mp | exact Lv.nil | exact Lv.z | exact Lv.dead | refine Lv.agg rfl ?_ | refine Lv.fn rfl ?_ rfl ?_ | refine Lv.tup rfl ?_ | refine Lv.ifc ?_ | exact lv_nil | refine lv_cons ?_ ?_)), (lvI (by first | rfl | omega | (simp; done) | (simp; omega) | assumption)), (lvRr rfl (by first | rfl | omega | (simp; done) | (simp; omega) | assumption)), trivial⟩
        · exact ⟨(obR rfl rfl rfl (by rw [hfs, ← nrows_app])), trivial⟩
        · kernel_rfl
      · omega
    · skip
      have hfb := fewL_bq raw (i := i) (by omega)
      refine D_exit ?_
      refine id (hK3 _ ?_)
      clear hK3; try clear K3
      refine D_seq fun K8 hK8 => ?_
      refine D_region ?_
      refine DL_c (op_mv _ (rfl : _ = AV.sl _ _)) ?_
      refine DL_c (op_callH inferInstance (by repeat' (first | exact argsLv_nil | refine argsLv_cons ?_ ?_ | exact Lv.v | exact lvI (by omega) | exact Lv.sl | exact Lv.fp | exact Lv.nil | refine Lv.agg rfl ?_ | refine Lv.fn rfl ?_ rfl ?_ | exact lv_nil | refine lv_cons ?_ ?_ | exact Lv.z0)) (hP) rfl rfl) ?_
      refine DL_c (op_as _ (rfl : _ = AV.sl _ _)) ?_
      refine DL_nil (hK8 _ ?_)
      clear hK8; try clear K8
      refine D_seq fun K9 hK9 => ?_
      refine D_region ?_
      refine DL_c (op_bs (42, 0) _ _ inferInstance rfl (by rfl) (by simp <;> rfl) (by decide) rfl rfl) ?_
      refine DL_c (op_mv _ (rfl : _ = AV.sl _ _)) ?_
      refine DL_c (op_ap (44, 0) _ _ inferInstance rfl rfl (by rfl) (.sl (by omega)) (by omega) rfl rfl (Nat.zero_add n)) ?_
      refine DL_c (op_as _ (rfl : _ = AV.ref _ _ _)) ?_
      refine DL_nil (hK9 _ ?_)
      clear hK9; try clear K9
      refine D_seq fun K10 hK10 => ?_
      refine D_le (σ' := mkStI 178 [(2, _), (3, _), (4, _), (11, _), (13, _), (14, _)] [((11, 0), _), ((44, 0), _)] [] []) (by
        refine Le.mkJ [] [] rfl ?_ ?_ trivial trivial ?_
        · exact ⟨(iV rfl), (iV rfl), (iV rfl), (iR rfl), (iS rfl), (iR rfl), trivial⟩
        · exact ⟨(obE rfl rfl rfl), (obE rfl rfl rfl), trivial⟩
        · kernel_rfl) ?_
      refine D_region ?_
      refine DL_c (op_mv _ (rfl : _ = AV.v (.int _ _))) ?_
      refine DL_c (op_mv _ (rfl : _ = AV.ref _ _ _)) ?_
      first
        | refine DL_c (op_lenR _ inferInstance rfl rfl) ?_
        | refine DL_c (op_lenB _ inferInstance rfl rfl) ?_
      refine DL_c (op_callH inferInstance (by repeat' (first | exact argsLv_nil | refine argsLv_cons ?_ ?_ | exact Lv.v | exact lvI (by omega) | exact Lv.sl | exact Lv.fp | exact Lv.nil | refine Lv.agg rfl ?_ | refine Lv.fn rfl ?_ rfl ?_ | exact lv_nil | refine lv_cons ?_ ?_ | exact Lv.z0)) (hk ▸ around_spec v n (by omega) (by omega) hv0.1 hv0.2) rfl rfl) ?_
      refine DL_c (op_as _ (rfl : _ = AV.v (.int _ _))) ?_
      refine DL_nil (hK10 _ ?_)
      clear hK10; try clear K10
      refine D_seq fun K11 hK11 => ?_
      refine D_region ?_
      refine DL_c (op_mv _ (rfl : _ = AV.ref _ _ _)) ?_
      refine DL_c (op_mv _ (rfl : _ = AV.v (.int _ _))) ?_
      refine DL_c (op_mv _ (rfl : _ = AV.ref _ _ _)) ?_
      refine DL_c (op_mv _ (rfl : _ = AV.v (.int _ _))) ?_
      refine DL_c (op_ixR _ _ inferInstance rfl rfl rfl k rfl (by omega) (by exact (Nat.zero_add _).trans (Nat.mul_one _))) ?_
      refine DL_c (op_ldR _ inferInstance rfl rfl (by exact nrows_get _ _ (by omega)) rfl) ?_
      refine DL_c (op_callR inferInstance [((0, 8), (50, 0))] ?_ ((ints4_own (Ps.getD k [])).toI) trivial ⟨rfl, trivial⟩ (by kernel_rfl)) ?_
      · repeat' (first | exact argsR_nil | refine argsR_cons ?_ ?_ | exact Lv.v | exact lvI (by assumption) | exact lvI (by omega) | exact Lv.sl | exact Lv.fp | exact Lv.nil | exact lvRr rfl rfl | exact lvPr rfl | refine Lv.agg rfl ?_ | refine Lv.fn rfl ?_ rfl ?_ | refine Lv.ifc ?_ | exact lv_nil | refine lv_cons ?_ ?_)
      refine DL_c (op_mv _ (rfl : _ = AV.v (.int _ _))) ?_
      refine DL_c (op_mv _ (rfl : _ = AV.ref _ _ _)) ?_
      first
        | refine DL_c (op_lenR _ inferInstance rfl rfl) ?_
        | refine DL_c (op_lenB _ inferInstance rfl rfl) ?_
      first
        | refine DL_c (op_add _ _ rfl rfl (i64w (by omega))) ?_
        | refine DL_c (op_add _ _ rfl rfl rfl) ?_
      refine DL_c (op_callH inferInstance (by repeat' (first | exact argsLv_nil | refine argsLv_cons ?_ ?_ | exact Lv.v | exact lvI (by omega) | exact Lv.sl | exact Lv.fp | exact Lv.nil | refine Lv.agg rfl ?_ | refine Lv.fn rfl ?_ rfl ?_ | exact lv_nil | refine lv_cons ?_ ?_ | exact Lv.z0)) (hx ▸ around_spec p ((n : Int) + 2) (by omega) (by omega) hp0.1 hp0.2) rfl rfl) ?_
      first
        | refine DL_c (op_sub _ _ rfl rfl (i64w (by omega))) ?_
        | refine DL_c (op_sub _ _ rfl rfl rfl) ?_
      refine DL_c (op_bsF _ _ inferInstance rfl (by rfl) (by simp <;> rfl) (by decide) rfl) ?_
      refine DL_c (op_ap (k := ((Ps.getD k []).take 4 ++ [x - 1]).length) (63, 0) _ _ inferInstance rfl rfl (by rw [isl_len]; omega) (.sl rfl) (by have := List.length_take (i := 4) (l := Ps.getD k []); omega) rfl (isl_append _ [x - 1]) (by rw [List.length_append]; rfl)) ?_
      refine DL_le (Le.frzS (ys := isl ((Ps.getD k []).take 4 ++ [x - 1])) 63 rfl rfl rfl (by rw [List.drop_zero, Nat.mul_one]; exact List.take_of_length_le (by rw [isl_len]; omega)) (by rw [isl_len]; omega)) ?_
      refine DL_c (op_ixR _ _ inferInstance rfl rfl rfl k rfl (by omega) (by exact (Nat.zero_add _).trans (Nat.mul_one _))) ?_
      refine DL_c (op_stR _ _ inferInstance rfl rfl rfl rfl rfl (by rw [nrows_len, hPn]; simp only [List.length_cons, List.length_nil]; omega) (nrows_put _ _ _ (by omega))) ?_
      refine DL_nil (hK11 _ ?_)
      clear hK11; try clear K11
      refine D_seq fun K12 hK12 => ?_
      refine D_le (σ' := mkStI 178 [(2, _), (4, _), (11, _), (13, _), (14, _)] [((11, 0), _), ((44, 0), _)] [] []) (by
        refine Le.mkJ [] [] rfl ?_ ?_ trivial trivial ?_
        · exact ⟨(iV rfl), (iV rfl), (iR rfl), (iS rfl), (iR rfl), trivial⟩
        · exact ⟨(obE rfl rfl rfl), (obE rfl rfl rfl), trivial⟩
        · kernel_rfl) ?_
      refine D_region ?_
      refine DL_c (op_mv _ (rfl : _ = AV.v (.int _ _))) ?_
      refine DL_c (op_callH inferInstance (by repeat' (first | exact argsLv_nil | refine argsLv_cons ?_ ?_ | exact Lv.v | exact lvI (by omega) | exact Lv.sl | exact Lv.fp | exact Lv.nil | refine Lv.agg rfl ?_ | refine Lv.fn rfl ?_ rfl ?_ | exact lv_nil | refine lv_cons ?_ ?_ | exact Lv.z0)) (hq ▸ around_spec many 10 (by omega) (by omega) hm0.1 hm0.2) rfl rfl) ?_
      first
        | refine DL_c (op_add _ _ rfl rfl (i64w (by omega))) ?_
        | refine DL_c (op_add _ _ rfl rfl rfl) ?_
      refine DL_c (op_mk (xs := List.replicate (60 + q) (.v (.slice none 0 0))) (68, 0) _ _ inferInstance rfl rfl (60 + q) (by omega) (by omega) (by omega) rfl (rep_nils _)) ?_
      refine DL_c (op_as _ (rfl : _ = AV.ref _ _ _)) ?_
      refine DL_nil (hK12 _ ?_)
      clear hK12; try clear K12
      refine D_seq fun K13 hK13 => ?_
      refine D_le (Le.trans (Le.frzS (ys := nrows (fewL raw i)) 11 rfl rfl rfl (by rw [List.drop_zero, Nat.mul_one]; exact List.take_of_length_le (by rw [nrows_len, hfl]; omega)) (by rw [nrows_len, hfl]; omega)) (Le.trans (Le.frzS (ys := nrows (Ps.set k ((Ps.getD k []).take 4 ++ [x - 1]))) 14 rfl rfl rfl (by rw [List.drop_zero, Nat.mul_one]; exact List.take_of_length_le (by rw [nrows_len, List.length_set]; omega)) (by rw [nrows_len, List.length_set]; omega)) (Le.trans (Le.frzS (ys := nrows (List.replicate (60 + q) [])) 16 rfl rfl rfl (by rw [List.drop_zero, Nat.mul_one, nrows_nils]; exact List.take_of_length_le (by simp)) (by simp)) (Le.nilsR (68, 0) (60 + q) rfl)))) ?_
      refine D_region ?_
      refine DL_c (op_mv _ (rfl : _ = AV.sl _ _)) ?_
      refine DL_c (op_mv _ (rfl : _ = AV.sl _ _)) ?_
      refine DL_c (op_mv _ (rfl : _ = AV.sl _ _)) ?_
      refine DL_c (op_mv _ (rfl : _ = AV.sl _ _)) ?_
      refine DL_c (op_bsF _ _ inferInstance rfl (by rfl) (by simp <;> rfl) (by decide) rfl) ?_
      refine DL_c (op_as _ (rfl : _ = AV.sl _ _)) ?_
      refine DL_nil (hK13 _ ?_)
      clear hK13; try clear K13
      refine D_seq fun K14 hK14 => ?_
      refine D_seq fun K15 hK15 => ?_
      refine D_region ?_
      refine DL_c (op_as _ (rfl : _ = AV.v (.int _ _))) ?_
      refine DL_nil (hK15 _ ?_)
      clear hK15; try clear K15
      refine D_block ?_
      refine D_loopL (α := Nat) (fun j => j ≤ 4) 178 [(2, _), (17, _)] [] (fun j => [(18, .v (.int .i64 (j : Int)))]) (fun j => []) [] [] (fun j => 4 - j) 0 ?_ (by
        refine Le.mkJ [] [] rfl ?_ ?_ trivial trivial ?_
        · exact ⟨(iV rfl), (iS rfl), (lvI (by first | rfl | omega | (simp; done) | (simp; omega) | assumption)), trivial⟩
        · exact trivial
        · kernel_rfl) ?_
      · first | omega | trivial | exact ⟨by omega, by omega⟩
      intro j hj
      refine D_seq fun K16 hK16 => ?_
      refine D_seq fun K17 hK17 => ?_
      refine D_region ?_
      refine DL_c (op_mv _ (rfl : _ = AV.v (.int _ _))) ?_
      refine DL_c (op_mv _ (rfl : _ = AV.sl _ _)) ?_
      refine DL_c (op_lenS _ inferInstance rfl) ?_
      first
        | refine DL_c (op_lss _ _ rfl rfl (by assumption)) ?_
        | refine DL_c (op_lss _ _ rfl rfl rfl) ?_
      refine DL_nil (hK17 _ ?_)
      clear hK17; try clear K17
      refine D_splitC rfl (fun hc77 => ?_) (fun hc77 => ?_)
      · skip
        have hget := qrow2_get [(i, fewL raw i), (n, Ps), (n, Ps.set k ((Ps.getD k []).take 4 ++ [x - 1])), (60 + q, List.replicate (60 + q) [])] j (by simp only [List.length_cons, List.length_nil]; omega)
        have hb : (([(i, fewL raw i), (n, Ps), (n, Ps.set k ((Ps.getD k []).take 4 ++ [x - 1])), (60 + q, List.replicate (60 + q) [])] : List (Nat × List (List Int))).getD j (0, [])).2.length = (([(i, fewL raw i), (n, Ps), (n, Ps.set k ((Ps.getD k []).take 4 ++ [x - 1])), (60 + q, List.replicate (60 + q) [])] : List (Nat × List (List Int))).getD j (0, [])).1 ∧ BQ (([(i, fewL raw i), (n, Ps), (n, Ps.set k ((Ps.getD k []).take 4 ++ [x - 1])), (60 + q, List.replicate (60 + q) [])] : List (Nat × List (List Int))).getD j (0, [])).2 := by
          have hj4 : j = 0 ∨ j = 1 ∨ j = 2 ∨ j = 3 := by omega
          rcases hj4 with rfl | rfl | rfl | rfl
          · exact ⟨hfl, hfb⟩
          · exact ⟨hPn, hN.bq⟩
          · exact ⟨by show (Ps.set k _).length = n; rw [List.length_set]; exact hPn, hN.turned k _ (by rw [List.length_append, List.length_take, List.length_singleton]; omega)⟩
          · exact ⟨by show (List.replicate (60 + q) ([] : List Int)).length = 60 + q; simp, BQ.wide _ (by omega)⟩
        generalize hB : ([(i, fewL raw i), (n, Ps), (n, Ps.set k ((Ps.getD k []).take 4 ++ [x - 1])), (60 + q, List.replicate (60 + q) [])] : List (Nat × List (List Int))).getD j (0, []) = b at hget hb
        obtain ⟨N, Q⟩ := b
        obtain ⟨hqn, hBQ⟩ := hb
        simp only at hqn hBQ hget
        subst hqn
        have hNv := vnew_spec Q.length Q rfl hBQ.n hBQ.m hBQ.s
        have hVS : ∀ r, newV Q = r → Spec Try.prog 58 (inSt [.sl Q.length (nrows Q)] []) (outSt r []) := fun r h => by rw [← h]; exact hNv
        have hRv := rnew32_spec Q.length Q rfl hBQ.n fun v => by have := hBQ.m v; omega
        have hRS : ∀ e, newRr Q = e → Spec Try.prog 63 (inSt [.sl Q.length (nrows Q)] []) (outSt (.v (.int .i64 e)) []) := fun e h => by rw [← h]; exact hRv
        have hQ1 := hBQ.n
        refine D_skip (hK16 _ ?_)
        clear hK16; try clear K16
        refine D_seq fun K18 hK18 => ?_
        refine D_block ?_
        refine D_seq fun K19 hK19 => ?_
        rcases build_cases hBQ with ⟨e, he0, hnv, hnr2⟩ | ⟨hG, hnv, hnr2⟩
        · skip
          refine D_region ?_
          refine DL_c (op_mv _ (rfl : _ = AV.sl _ _)) ?_
          refine DL_c (op_mv _ (rfl : _ = AV.v (.int _ _))) ?_
          first
            | refine DL_c (op_ixS _ _ inferInstance rfl rfl _ rfl (by omega) (by first | assumption | decide | (simp only [isl_len, bsl_len, psl_len, mrows_len, nsl_len, ws_len, List.length_map, ul_len, psl_len, isl_len, nrows_len, prL_len]; omega) | (simp; done) | (simp; omega) | (simp [isl, bsl]; omega)) (by first | exact Nat.mul_one _ | rfl | omega)) ?_
            | refine DL_c (op_ixS _ _ inferInstance rfl rfl (Int.toNat _) (Int.toNat_of_nonneg (by omega)).symm (by omega) (by first | assumption | decide | (simp only [isl_len, bsl_len, psl_len, mrows_len, nsl_len, ws_len, List.length_map, ul_len, psl_len, isl_len, nrows_len, prL_len]; omega) | (simp; done) | (simp; omega) | (simp [isl, bsl]; omega)) (by first | exact Nat.mul_one _ | rfl | omega)) ?_
          refine DL_c (op_ldF _ inferInstance rfl (by exact hget) rfl) ?_
          refine DL_c (op_callH inferInstance (by repeat' (first | exact argsLv_nil | refine argsLv_cons ?_ ?_ | exact Lv.v | exact lvI (by omega) | exact Lv.sl | exact Lv.fp | exact Lv.nil | refine Lv.agg rfl ?_ | refine Lv.fn rfl ?_ rfl ?_ | exact lv_nil | refine lv_cons ?_ ?_ | exact Lv.z0)) (hVS _ hnv) rfl rfl) ?_
          refine DL_c (op_mv _ (rfl : _ = AV.tup _)) ?_
          first
            | refine DL_c (op_ext _ rfl (rfl : _ = some (AV.ptr _ _))) ?_
            | refine DL_c (op_ext _ rfl (rfl : _ = some (AV.fp _ _))) ?_
            | refine DL_c (op_ext _ rfl (rfl : _ = some (AV.v (.pointer _)))) ?_
          refine DL_c (op_ext _ rfl (rfl : _ = some (AV.v (.int _ _)))) ?_
          first
            | refine DL_c (op_as _ (rfl : _ = AV.ptr _ _)) ?_
            | refine DL_c (op_as _ (rfl : _ = AV.fp _ _)) ?_
            | refine DL_c (op_as _ (rfl : _ = AV.v (.pointer _))) ?_
          refine DL_c (op_as _ (rfl : _ = AV.v (.int _ _))) ?_
          refine DL_nil (hK19 _ ?_)
          clear hK19; try clear K19
          refine D_seq fun K20 hK20 => ?_
          refine D_seq fun K21 hK21 => ?_
          refine D_region ?_
          refine DL_c (op_mv _ (rfl : _ = AV.v (.int _ _))) ?_
          refine DL_c (op_mv _ (rfl : _ = AV.sl _ _)) ?_
          refine DL_c (op_mv _ (rfl : _ = AV.v (.int _ _))) ?_
          first
            | refine DL_c (op_ixS _ _ inferInstance rfl rfl _ rfl (by omega) (by first | assumption | decide | (simp only [isl_len, bsl_len, psl_len, mrows_len, nsl_len, ws_len, List.length_map, ul_len, psl_len, isl_len, nrows_len, prL_len]; omega) | (simp; done) | (simp; omega) | (simp [isl, bsl]; omega)) (by first | exact Nat.mul_one _ | rfl | omega)) ?_
            | refine DL_c (op_ixS _ _ inferInstance rfl rfl (Int.toNat _) (Int.toNat_of_nonneg (by omega)).symm (by omega) (by first | assumption | decide | (simp only [isl_len, bsl_len, psl_len, mrows_len, nsl_len, ws_len, List.length_map, ul_len, psl_len, isl_len, nrows_len, prL_len]; omega) | (simp; done) | (simp; omega) | (simp [isl, bsl]; omega)) (by first | exact Nat.mul_one _ | rfl | omega)) ?_
          refine DL_c (op_ldF _ inferInstance rfl (by exact hget) rfl) ?_
          refine DL_c (op_callH inferInstance (by repeat' (first | exact argsLv_nil | refine argsLv_cons ?_ ?_ | exact Lv.v | exact lvI (by omega) | exact Lv.sl | exact Lv.fp | exact Lv.nil | refine Lv.agg rfl ?_ | refine Lv.fn rfl ?_ rfl ?_ | exact lv_nil | refine lv_cons ?_ ?_ | exact Lv.z0)) (hRS _ hnr2) rfl rfl) ?_
          refine DL_c (op_neq (r := false) _ _ rfl rfl (bne_self_eq_false _)) ?_
          refine DL_c (op_mv _ (rfl : _ = AV.v (.bool _))) ?_
          refine DL_caseC (fun hg95 => ?_) (fun hg95 => ?_)
          · skip
            refine DL_cn rfl rfl (by decide) ?_
            refine DL_cn rfl rfl (by decide) ?_
            refine DL_cn rfl rfl (by decide) ?_
            refine DL_cn rfl rfl (by decide) ?_
            refine DL_cn rfl rfl (by decide) ?_
            refine DL_c (op_pick _ _ _ rfl (rfl : _ = AV.v (.bool _))) ?_
            refine DL_nil (hK21 _ ?_)
            clear hK21; try clear K21
            refine D_cT rfl rfl ?_
            refine D_seq fun K22 hK22 => ?_
            refine D_le (σ' := mkStI 178 [] [] [] []) (by
              refine Le.mkJ [] [] rfl ?_ ?_ trivial trivial ?_
              · exact trivial
              · exact trivial
              · kernel_rfl) ?_
            refine D_region ?_
            refine DL_c (op_as _ (rfl : _ = AV.v (.bool _))) ?_
            refine DL_nil (hK22 _ ?_)
            clear hK22; try clear K22
            refine D_ret ?_
            first | (cases hg95; done) | (cases hg112; done) | (cases hg118; done) | (cases hg129; done) | (cases hg164; done) | exact ret1 (.inr rfl) rfl (.tmp (rfl : _ = AV.v (.bool _))) (Le.out [] [] .v rfl rfl rfl trivial trivial)
          · skip
            first
              | refine DL_cy rfl rfl (op_mv _ (rfl : _ = AV.ptr _ _)) ?_
              | refine DL_cy rfl rfl (op_mv _ (rfl : _ = AV.fp _ _)) ?_
              | refine DL_cy rfl rfl (op_mv _ (rfl : _ = AV.v (.pointer _))) ?_
            first
              | refine DL_cy rfl rfl (op_eqP _ _ (by kernel_rfl) rfl rfl) ?_
              | refine DL_cy rfl rfl (op_eqN _ _ (by kernel_rfl) (.inr ⟨_, _, rfl⟩) rfl) ?_
              | refine DL_cy rfl rfl (op_eqN _ _ (by kernel_rfl) (.inl ⟨_, _, _, rfl, rfl⟩) rfl) ?_
            refine DL_cy rfl rfl (op_mv _ (rfl : _ = AV.v (.int _ _))) ?_
            refine DL_cy rfl rfl (op_neq (r := true) _ _ rfl rfl (by rw [bne_iff_ne]; exact he0)) ?_
            refine DL_cy rfl rfl (op_neB _ _ rfl rfl Try.underlying4 rfl) ?_
            refine DL_c (op_pick _ _ _ rfl (rfl : _ = AV.v (.bool _))) ?_
            refine DL_nil (hK21 _ ?_)
            clear hK21; try clear K21
            refine D_splitC rfl (fun hc101 => ?_) (fun hc101 => ?_)
            · skip
              exact absurd  hc101 (by simp)
            · skip
              refine D_skip (hK20 _ ?_)
              clear hK20; try clear K20
              refine D_seq fun K23 hK23 => ?_
              refine D_seq fun K24 hK24 => ?_
              refine D_le (σ' := mkStI 178 [(2, _), (17, _), (18, _), (19, _)] [] [] []) (by
                refine Le.mkJ [] [] rfl ?_ ?_ trivial trivial ?_
                · exact ⟨(iV rfl), (iS rfl), (iV rfl), (by first | exact iP rfl | exact iF rfl | exact iV rfl | exact iD rfl), trivial⟩
                · exact trivial
                · kernel_rfl) ?_
              refine D_region ?_
              first
                | refine DL_c (op_mv _ (rfl : _ = AV.ptr _ _)) ?_
                | refine DL_c (op_mv _ (rfl : _ = AV.fp _ _)) ?_
                | refine DL_c (op_mv _ (rfl : _ = AV.v (.pointer _))) ?_
              first
                | refine DL_c (op_eqP _ _ (by kernel_rfl) rfl rfl) ?_
                | refine DL_c (op_eqN _ _ (by kernel_rfl) (.inr ⟨_, _, rfl⟩) rfl) ?_
                | refine DL_c (op_eqN _ _ (by kernel_rfl) (.inl ⟨_, _, _, rfl, rfl⟩) rfl) ?_
              refine DL_nil (hK24 _ ?_)
              clear hK24; try clear K24
              refine D_splitC rfl (fun hc103 => ?_) (fun hc103 => ?_)
              · skip
                refine D_exit ?_
                refine id (hK18 _ ?_)
                clear hK18; try clear K18
                refine D_region ?_
                refine DL_c (op_mv _ (rfl : _ = AV.v (.int _ _))) ?_
                first
                  | refine DL_c (op_add _ _ rfl rfl (i64w (by omega))) ?_
                  | refine DL_c (op_add _ _ rfl rfl rfl) ?_
                refine DL_c (op_as _ (rfl : _ = AV.v (.int _ _))) ?_
                refine DL_nil ?_
                refine ⟨j + 1, ?_, ?_, ?_⟩
                · first | omega | trivial | exact ⟨by omega, by omega⟩
                · skip
                  refine Le.mkJ [] [] rfl ?_ ?_ trivial trivial ?_
                  · exact ⟨(iV rfl), (iS rfl), (lvI (by first | rfl | omega | (simp; done) | (simp; omega) | assumption)), trivial⟩
                  · exact trivial
                  · kernel_rfl
                · omega
              · skip
                exact absurd  hc103 (by simp)
        · skip
          refine D_region ?_
          refine DL_c (op_mv _ (rfl : _ = AV.sl _ _)) ?_
          refine DL_c (op_mv _ (rfl : _ = AV.v (.int _ _))) ?_
          first
            | refine DL_c (op_ixS _ _ inferInstance rfl rfl _ rfl (by omega) (by first | assumption | decide | (simp only [isl_len, bsl_len, psl_len, mrows_len, nsl_len, ws_len, List.length_map, ul_len, psl_len, isl_len, nrows_len, prL_len]; omega) | (simp; done) | (simp; omega) | (simp [isl, bsl]; omega)) (by first | exact Nat.mul_one _ | rfl | omega)) ?_
            | refine DL_c (op_ixS _ _ inferInstance rfl rfl (Int.toNat _) (Int.toNat_of_nonneg (by omega)).symm (by omega) (by first | assumption | decide | (simp only [isl_len, bsl_len, psl_len, mrows_len, nsl_len, ws_len, List.length_map, ul_len, psl_len, isl_len, nrows_len, prL_len]; omega) | (simp; done) | (simp; omega) | (simp [isl, bsl]; omega)) (by first | exact Nat.mul_one _ | rfl | omega)) ?_
          refine DL_c (op_ldF _ inferInstance rfl (by exact hget) rfl) ?_
          refine DL_c (op_callH inferInstance (by repeat' (first | exact argsLv_nil | refine argsLv_cons ?_ ?_ | exact Lv.v | exact lvI (by omega) | exact Lv.sl | exact Lv.fp | exact Lv.nil | refine Lv.agg rfl ?_ | refine Lv.fn rfl ?_ rfl ?_ | exact lv_nil | refine lv_cons ?_ ?_ | exact Lv.z0)) (hVS _ hnv) rfl rfl) ?_
          refine DL_c (op_mv _ (rfl : _ = AV.tup _)) ?_
          first
            | refine DL_c (op_ext _ rfl (rfl : _ = some (AV.ptr _ _))) ?_
            | refine DL_c (op_ext _ rfl (rfl : _ = some (AV.fp _ _))) ?_
            | refine DL_c (op_ext _ rfl (rfl : _ = some (AV.v (.pointer _)))) ?_
          refine DL_c (op_ext _ rfl (rfl : _ = some (AV.v (.int _ _)))) ?_
          refine DL_c (op_as _ (rfl : _ = AV.fp _ _)) ?_
          refine DL_c (op_as _ (rfl : _ = AV.v (.int _ _))) ?_
          refine DL_nil (hK19 _ ?_)
          clear hK19; try clear K19
          refine D_seq fun K25 hK25 => ?_
          refine D_seq fun K26 hK26 => ?_
          refine D_region ?_
          refine DL_c (op_mv _ (rfl : _ = AV.v (.int _ _))) ?_
          refine DL_c (op_mv _ (rfl : _ = AV.sl _ _)) ?_
          refine DL_c (op_mv _ (rfl : _ = AV.v (.int _ _))) ?_
          first
            | refine DL_c (op_ixS _ _ inferInstance rfl rfl _ rfl (by omega) (by first | assumption | decide | (simp only [isl_len, bsl_len, psl_len, mrows_len, nsl_len, ws_len, List.length_map, ul_len, psl_len, isl_len, nrows_len, prL_len]; omega) | (simp; done) | (simp; omega) | (simp [isl, bsl]; omega)) (by first | exact Nat.mul_one _ | rfl | omega)) ?_
            | refine DL_c (op_ixS _ _ inferInstance rfl rfl (Int.toNat _) (Int.toNat_of_nonneg (by omega)).symm (by omega) (by first | assumption | decide | (simp only [isl_len, bsl_len, psl_len, mrows_len, nsl_len, ws_len, List.length_map, ul_len, psl_len, isl_len, nrows_len, prL_len]; omega) | (simp; done) | (simp; omega) | (simp [isl, bsl]; omega)) (by first | exact Nat.mul_one _ | rfl | omega)) ?_
          refine DL_c (op_ldF _ inferInstance rfl (by exact hget) rfl) ?_
          refine DL_c (op_callH inferInstance (by repeat' (first | exact argsLv_nil | refine argsLv_cons ?_ ?_ | exact Lv.v | exact lvI (by omega) | exact Lv.sl | exact Lv.fp | exact Lv.nil | refine Lv.agg rfl ?_ | refine Lv.fn rfl ?_ rfl ?_ | exact lv_nil | refine lv_cons ?_ ?_ | exact Lv.z0)) (hRS _ hnr2) rfl rfl) ?_
          refine DL_c (op_neq (r := false) _ _ rfl rfl (bne_self_eq_false _)) ?_
          refine DL_c (op_mv _ (rfl : _ = AV.v (.bool _))) ?_
          refine DL_caseC (fun hg95 => ?_) (fun hg95 => ?_)
          · skip
            refine DL_cn rfl rfl (by decide) ?_
            refine DL_cn rfl rfl (by decide) ?_
            refine DL_cn rfl rfl (by decide) ?_
            refine DL_cn rfl rfl (by decide) ?_
            refine DL_cn rfl rfl (by decide) ?_
            refine DL_c (op_pick _ _ _ rfl (rfl : _ = AV.v (.bool _))) ?_
            refine DL_nil (hK26 _ ?_)
            clear hK26; try clear K26
            refine D_cT rfl rfl ?_
            refine D_seq fun K27 hK27 => ?_
            refine D_le (σ' := mkStI 178 [] [] [] []) (by
              refine Le.mkJ [] [] rfl ?_ ?_ trivial trivial ?_
              · exact trivial
              · exact trivial
              · kernel_rfl) ?_
            refine D_region ?_
            refine DL_c (op_as _ (rfl : _ = AV.v (.bool _))) ?_
            refine DL_nil (hK27 _ ?_)
            clear hK27; try clear K27
            refine D_ret ?_
            first | (cases hg95; done) | (cases hg112; done) | (cases hg118; done) | (cases hg129; done) | (cases hg164; done) | exact ret1 (.inr rfl) rfl (.tmp (rfl : _ = AV.v (.bool _))) (Le.out [] [] .v rfl rfl rfl trivial trivial)
          · skip
            refine DL_cy rfl rfl (op_mv _ (rfl : _ = AV.fp _ _)) ?_
            refine DL_cy rfl rfl (op_eqN _ _ (by kernel_rfl) (.inr ⟨_, _, rfl⟩) rfl) ?_
            refine DL_cy rfl rfl (op_mv _ (rfl : _ = AV.v (.int _ _))) ?_
            refine DL_cy rfl rfl (op_neq (r := false) _ _ rfl rfl rfl) ?_
            refine DL_cy rfl rfl (op_neB _ _ rfl rfl Try.underlying4 rfl) ?_
            refine DL_c (op_pick _ _ _ rfl (rfl : _ = AV.v (.bool _))) ?_
            refine DL_nil (hK26 _ ?_)
            clear hK26; try clear K26
            refine D_splitC rfl (fun hc101 => ?_) (fun hc101 => ?_)
            · skip
              exact absurd  hc101 (by simp)
            · skip
              refine D_skip (hK25 _ ?_)
              clear hK25; try clear K25
              refine D_seq fun K28 hK28 => ?_
              refine D_seq fun K29 hK29 => ?_
              refine D_le (σ' := mkStI 178 [(2, _), (17, _), (18, _), (19, _)] [] [] []) (by
                refine Le.mkJ [] [] rfl ?_ ?_ trivial trivial ?_
                · exact ⟨(iV rfl), (iS rfl), (iV rfl), (iF rfl), trivial⟩
                · exact trivial
                · kernel_rfl) ?_
              refine D_region ?_
              refine DL_c (op_mv _ (rfl : _ = AV.fp _ _)) ?_
              refine DL_c (op_eqN _ _ (by kernel_rfl) (.inr ⟨_, _, rfl⟩) rfl) ?_
              refine DL_nil (hK29 _ ?_)
              clear hK29; try clear K29
              refine D_cF rfl rfl ?_
              refine D_skip (hK28 _ ?_)
              clear hK28; try clear K28
              refine D_seq fun K30 hK30 => ?_
              refine D_seq fun K31 hK31 => ?_
              refine D_anyL 38 [104, 105, 106, 107, 108, 109, 110, 111, 112, 113, 114, 115, 116, 117, 118, 119, 120, 121, 122, 123, 124, 125, 126, 127, 128, 129, 130, 131, 132, 133, 134, 135, 136, 137, 138, 139, 140, 141] [] (by kernel_rfl) (by kernel_rfl) rfl (nodupO_iff rfl) (rfl : _ = [_, _, _, _, _, _, _, _, _, _, _, _, _, _, _, _, _, _, _, _, _, _, _, _, _, _, _, _, _, _, _, _, _, _, _, _, _, _]) (rfl : _ = []) ?_
              refine any_c (_, []) (fun τ => op_mv _ (rfl : _ = AV.fp _ _)) ?_
              refine any_n (rfl : _ = [_]) ?_
              refine any_c (_, []) (fun τ => (op_callH inferInstance (by repeat' (first | exact argsLv_nil | refine argsLv_cons ?_ ?_ | exact Lv.v | exact lvI (by omega) | exact Lv.sl | exact Lv.fp | exact Lv.nil | refine Lv.agg rfl ?_ | refine Lv.fn rfl ?_ rfl ?_ | exact lv_nil | refine lv_cons ?_ ?_ | exact Lv.z0)) (vlen_spec Q.length (parW Q) (ancW Q.length (edg Q Q.length 0))) rfl rfl)) ?_
              refine any_n (rfl : _ = [_, _]) ?_
              refine any_c (_, []) (fun τ => op_mv _ (rfl : _ = AV.sl _ _)) ?_
              refine any_n (rfl : _ = [_, _, _]) ?_
              refine any_c (_, []) (fun τ => op_mv _ (rfl : _ = AV.v (.int _ _))) ?_
              refine any_n (rfl : _ = [_, _, _, _]) ?_
              first
                | refine any_c (_, []) (fun τ => op_ixS _ _ inferInstance rfl rfl _ rfl (by omega) (by first | assumption | decide | (simp only [isl_len, bsl_len, psl_len, mrows_len, nsl_len, ws_len, List.length_map, ul_len, psl_len, isl_len, nrows_len, prL_len]; omega) | (simp; done) | (simp; omega) | (simp [isl, bsl]; omega)) (by first | exact Nat.mul_one _ | rfl | omega)) ?_
                | refine any_c (_, []) (fun τ => op_ixS _ _ inferInstance rfl rfl (Int.toNat _) (Int.toNat_of_nonneg (by omega)).symm (by omega) (by first | assumption | decide | (simp only [isl_len, bsl_len, psl_len, mrows_len, nsl_len, ws_len, List.length_map, ul_len, psl_len, isl_len, nrows_len, prL_len]; omega) | (simp; done) | (simp; omega) | (simp [isl, bsl]; omega)) (by first | exact Nat.mul_one _ | rfl | omega)) ?_
              refine any_n (rfl : _ = [_, _, _, _, _]) ?_
              refine any_c (_, []) (fun τ => op_ldF _ inferInstance rfl (by exact hget) rfl) ?_
              refine any_n (rfl : _ = [_, _, _, _, _, _]) ?_
              first
                | refine any_c (_, []) (fun τ => op_lenS _ inferInstance rfl) ?_
                | refine any_c (_, []) (fun τ => op_lenR _ inferInstance rfl rfl) ?_
                | refine any_c (_, []) (fun τ => op_lenN _ inferInstance rfl) ?_
                | refine any_c (_, []) (fun τ => op_lenB _ inferInstance rfl rfl) ?_
                | refine any_c (_, []) (fun τ => op_lenZ _ inferInstance rfl) ?_
              refine any_n (rfl : _ = [_, _, _, _, _, _, _]) ?_
              refine any_c (_, []) (fun τ => op_neq (r := false) _ _ rfl rfl (bne_self_eq_false _)) ?_
              refine any_n (rfl : _ = [_, _, _, _, _, _, _, _]) ?_
              refine any_c (_, []) (fun τ => op_mv _ (rfl : _ = AV.v (.bool _))) ?_
              refine any_caseC (fun hg112 => ?_) (fun hg112 => ?_)
              · skip
                refine any_n (rfl : _ = [_, _, _, _, _, _, _, _, _]) ?_
                refine any_cn rfl (fun τ => rfl) (by decide) ?_
                refine any_n (rfl : _ = [_, _, _, _, _, _, _, _, _, _]) ?_
                refine any_cn rfl (fun τ => rfl) (by decide) ?_
                refine any_n (rfl : _ = [_, _, _, _, _, _, _, _, _, _, _]) ?_
                refine any_cn rfl (fun τ => rfl) (by decide) ?_
                refine any_n (rfl : _ = [_, _, _, _, _, _, _, _, _, _, _, _]) ?_
                refine any_cn rfl (fun τ => rfl) (by decide) ?_
                refine any_n (rfl : _ = [_, _, _, _, _, _, _, _, _, _, _, _, _]) ?_
                refine any_c (_, []) (fun τ => op_pick _ _ _ rfl (rfl : _ = AV.v (.bool _))) ?_
                refine any_n (rfl : _ = [_, _, _, _, _, _, _, _, _, _, _, _, _, _]) ?_
                refine any_c (_, []) (fun τ => op_mv _ (rfl : _ = AV.v (.bool _))) ?_
                refine any_n (rfl : _ = [_, _, _, _, _, _, _, _, _, _, _, _, _, _, _]) ?_
                refine any_cn rfl (fun τ => rfl) (by decide) ?_
                refine any_n (rfl : _ = [_, _, _, _, _, _, _, _, _, _, _, _, _, _, _, _]) ?_
                refine any_cn rfl (fun τ => rfl) (by decide) ?_
                refine any_n (rfl : _ = [_, _, _, _, _, _, _, _, _, _, _, _, _, _, _, _, _]) ?_
                refine any_cn rfl (fun τ => rfl) (by decide) ?_
                refine any_n (rfl : _ = [_, _, _, _, _, _, _, _, _, _, _, _, _, _, _, _, _, _]) ?_
                refine any_cn rfl (fun τ => rfl) (by decide) ?_
                refine any_n (rfl : _ = [_, _, _, _, _, _, _, _, _, _, _, _, _, _, _, _, _, _, _]) ?_
                refine any_cn rfl (fun τ => rfl) (by decide) ?_
                refine any_n (rfl : _ = [_, _, _, _, _, _, _, _, _, _, _, _, _, _, _, _, _, _, _, _]) ?_
                refine any_cn rfl (fun τ => rfl) (by decide) ?_
                refine any_n (rfl : _ = [_, _, _, _, _, _, _, _, _, _, _, _, _, _, _, _, _, _, _, _, _]) ?_
                refine any_cn rfl (fun τ => rfl) (by decide) ?_
                refine any_n (rfl : _ = [_, _, _, _, _, _, _, _, _, _, _, _, _, _, _, _, _, _, _, _, _, _]) ?_
                refine any_cn rfl (fun τ => rfl) (by decide) ?_
                refine any_n (rfl : _ = [_, _, _, _, _, _, _, _, _, _, _, _, _, _, _, _, _, _, _, _, _, _, _]) ?_
                refine any_cn rfl (fun τ => rfl) (by decide) ?_
                refine any_n (rfl : _ = [_, _, _, _, _, _, _, _, _, _, _, _, _, _, _, _, _, _, _, _, _, _, _, _]) ?_
                refine any_c (_, []) (fun τ => op_pick _ _ _ rfl (rfl : _ = AV.v (.bool _))) ?_
                refine any_n (rfl : _ = [_, _, _, _, _, _, _, _, _, _, _, _, _, _, _, _, _, _, _, _, _, _, _, _, _]) ?_
                refine any_c (_, []) (fun τ => op_mv _ (rfl : _ = AV.v (.bool _))) ?_
                refine any_n (rfl : _ = [_, _, _, _, _, _, _, _, _, _, _, _, _, _, _, _, _, _, _, _, _, _, _, _, _, _]) ?_
                refine any_cn rfl (fun τ => rfl) (by decide) ?_
                refine any_n (rfl : _ = [_, _, _, _, _, _, _, _, _, _, _, _, _, _, _, _, _, _, _, _, _, _, _, _, _, _, _]) ?_
                refine any_cn rfl (fun τ => rfl) (by decide) ?_
                refine any_n (rfl : _ = [_, _, _, _, _, _, _, _, _, _, _, _, _, _, _, _, _, _, _, _, _, _, _, _, _, _, _, _]) ?_
                refine any_cn rfl (fun τ => rfl) (by decide) ?_
                refine any_n (rfl : _ = [_, _, _, _, _, _, _, _, _, _, _, _, _, _, _, _, _, _, _, _, _, _, _, _, _, _, _, _, _]) ?_
                refine any_cn rfl (fun τ => rfl) (by decide) ?_
                refine any_n (rfl : _ = [_, _, _, _, _, _, _, _, _, _, _, _, _, _, _, _, _, _, _, _, _, _, _, _, _, _, _, _, _, _]) ?_
                refine any_cn rfl (fun τ => rfl) (by decide) ?_
                refine any_n (rfl : _ = [_, _, _, _, _, _, _, _, _, _, _, _, _, _, _, _, _, _, _, _, _, _, _, _, _, _, _, _, _, _, _]) ?_
                refine any_cn rfl (fun τ => rfl) (by decide) ?_
                refine any_n (rfl : _ = [_, _, _, _, _, _, _, _, _, _, _, _, _, _, _, _, _, _, _, _, _, _, _, _, _, _, _, _, _, _, _, _]) ?_
                refine any_cn rfl (fun τ => rfl) (by decide) ?_
                refine any_n (rfl : _ = [_, _, _, _, _, _, _, _, _, _, _, _, _, _, _, _, _, _, _, _, _, _, _, _, _, _, _, _, _, _, _, _, _]) ?_
                refine any_cn rfl (fun τ => rfl) (by decide) ?_
                refine any_n (rfl : _ = [_, _, _, _, _, _, _, _, _, _, _, _, _, _, _, _, _, _, _, _, _, _, _, _, _, _, _, _, _, _, _, _, _, _]) ?_
                refine any_cn rfl (fun τ => rfl) (by decide) ?_
                refine any_n (rfl : _ = [_, _, _, _, _, _, _, _, _, _, _, _, _, _, _, _, _, _, _, _, _, _, _, _, _, _, _, _, _, _, _, _, _, _, _]) ?_
                refine any_cn rfl (fun τ => rfl) (by decide) ?_
                refine any_n (rfl : _ = [_, _, _, _, _, _, _, _, _, _, _, _, _, _, _, _, _, _, _, _, _, _, _, _, _, _, _, _, _, _, _, _, _, _, _, _]) ?_
                refine any_cn rfl (fun τ => rfl) (by decide) ?_
                refine any_n (rfl : _ = [_, _, _, _, _, _, _, _, _, _, _, _, _, _, _, _, _, _, _, _, _, _, _, _, _, _, _, _, _, _, _, _, _, _, _, _, _]) ?_
                refine any_c (_, []) (fun τ => op_pick _ _ _ rfl (rfl : _ = AV.v (.bool _))) ?_
                refine any_n (rfl : _ = [_, _, _, _, _, _, _, _, _, _, _, _, _, _, _, _, _, _, _, _, _, _, _, _, _, _, _, _, _, _, _, _, _, _, _, _, _, _]) ?_
                refine any_end ⟨rfl, ?_⟩
                refine DL_nil (hK31 _ ?_)
                clear hK31; try clear K31
                refine D_cT rfl rfl ?_
                refine D_seq fun K32 hK32 => ?_
                refine D_le (σ' := mkStI 178 [] [] [] []) (by
                  refine Le.mkJ [] [] rfl ?_ ?_ trivial trivial ?_
                  · exact trivial
                  · exact trivial
                  · kernel_rfl) ?_
                refine D_region ?_
                refine DL_c (op_as _ (rfl : _ = AV.v (.bool _))) ?_
                refine DL_nil (hK32 _ ?_)
                clear hK32; try clear K32
                refine D_ret ?_
                first | (cases hg95; done) | (cases hg112; done) | (cases hg118; done) | (cases hg129; done) | (cases hg164; done) | exact ret1 (.inr rfl) rfl (.tmp (rfl : _ = AV.v (.bool _))) (Le.out [] [] .v rfl rfl rfl trivial trivial)
              · skip
                refine any_n (rfl : _ = [_, _, _, _, _, _, _, _, _]) ?_
                refine any_cy (_, []) rfl (fun τ => rfl) (fun τ => op_mv _ (rfl : _ = AV.fp _ _)) ?_
                refine any_n (rfl : _ = [_, _, _, _, _, _, _, _, _, _]) ?_
                refine any_cy (_, []) rfl (fun τ => rfl) (fun τ => (op_callH inferInstance (by repeat' (first | exact argsLv_nil | refine argsLv_cons ?_ ?_ | exact Lv.v | exact lvI (by omega) | exact Lv.sl | exact Lv.fp | exact Lv.nil | refine Lv.agg rfl ?_ | refine Lv.fn rfl ?_ rfl ?_ | exact lv_nil | refine lv_cons ?_ ?_ | exact Lv.z0)) (parm_no hG) rfl rfl)) ?_
                refine any_n (rfl : _ = [_, _, _, _, _, _, _, _, _, _, _]) ?_
                refine any_cy (_, []) rfl (fun τ => rfl) (fun τ => op_lenS _ inferInstance rfl) ?_
                refine any_n (rfl : _ = [_, _, _, _, _, _, _, _, _, _, _, _]) ?_
                refine any_cy (_, []) rfl (fun τ => rfl) (fun τ => op_neq (r := false) _ _ rfl rfl rfl) ?_
                refine any_n (rfl : _ = [_, _, _, _, _, _, _, _, _, _, _, _, _]) ?_
                refine any_c (_, []) (fun τ => op_pick _ _ _ rfl (rfl : _ = AV.v (.bool _))) ?_
                refine any_n (rfl : _ = [_, _, _, _, _, _, _, _, _, _, _, _, _, _]) ?_
                refine any_c (_, []) (fun τ => op_mv _ (rfl : _ = AV.v (.bool _))) ?_
                refine any_caseC (fun hg118 => ?_) (fun hg118 => ?_)
                · skip
                  refine any_n (rfl : _ = [_, _, _, _, _, _, _, _, _, _, _, _, _, _, _]) ?_
                  refine any_cn rfl (fun τ => rfl) (by decide) ?_
                  refine any_n (rfl : _ = [_, _, _, _, _, _, _, _, _, _, _, _, _, _, _, _]) ?_
                  refine any_cn rfl (fun τ => rfl) (by decide) ?_
                  refine any_n (rfl : _ = [_, _, _, _, _, _, _, _, _, _, _, _, _, _, _, _, _]) ?_
                  refine any_cn rfl (fun τ => rfl) (by decide) ?_
                  refine any_n (rfl : _ = [_, _, _, _, _, _, _, _, _, _, _, _, _, _, _, _, _, _]) ?_
                  refine any_cn rfl (fun τ => rfl) (by decide) ?_
                  refine any_n (rfl : _ = [_, _, _, _, _, _, _, _, _, _, _, _, _, _, _, _, _, _, _]) ?_
                  refine any_cn rfl (fun τ => rfl) (by decide) ?_
                  refine any_n (rfl : _ = [_, _, _, _, _, _, _, _, _, _, _, _, _, _, _, _, _, _, _, _]) ?_
                  refine any_cn rfl (fun τ => rfl) (by decide) ?_
                  refine any_n (rfl : _ = [_, _, _, _, _, _, _, _, _, _, _, _, _, _, _, _, _, _, _, _, _]) ?_
                  refine any_cn rfl (fun τ => rfl) (by decide) ?_
                  refine any_n (rfl : _ = [_, _, _, _, _, _, _, _, _, _, _, _, _, _, _, _, _, _, _, _, _, _]) ?_
                  refine any_cn rfl (fun τ => rfl) (by decide) ?_
                  refine any_n (rfl : _ = [_, _, _, _, _, _, _, _, _, _, _, _, _, _, _, _, _, _, _, _, _, _, _]) ?_
                  refine any_cn rfl (fun τ => rfl) (by decide) ?_
                  refine any_n (rfl : _ = [_, _, _, _, _, _, _, _, _, _, _, _, _, _, _, _, _, _, _, _, _, _, _, _]) ?_
                  refine any_c (_, []) (fun τ => op_pick _ _ _ rfl (rfl : _ = AV.v (.bool _))) ?_
                  refine any_n (rfl : _ = [_, _, _, _, _, _, _, _, _, _, _, _, _, _, _, _, _, _, _, _, _, _, _, _, _]) ?_
                  refine any_c (_, []) (fun τ => op_mv _ (rfl : _ = AV.v (.bool _))) ?_
                  refine any_n (rfl : _ = [_, _, _, _, _, _, _, _, _, _, _, _, _, _, _, _, _, _, _, _, _, _, _, _, _, _]) ?_
                  refine any_cn rfl (fun τ => rfl) (by decide) ?_
                  refine any_n (rfl : _ = [_, _, _, _, _, _, _, _, _, _, _, _, _, _, _, _, _, _, _, _, _, _, _, _, _, _, _]) ?_
                  refine any_cn rfl (fun τ => rfl) (by decide) ?_
                  refine any_n (rfl : _ = [_, _, _, _, _, _, _, _, _, _, _, _, _, _, _, _, _, _, _, _, _, _, _, _, _, _, _, _]) ?_
                  refine any_cn rfl (fun τ => rfl) (by decide) ?_
                  refine any_n (rfl : _ = [_, _, _, _, _, _, _, _, _, _, _, _, _, _, _, _, _, _, _, _, _, _, _, _, _, _, _, _, _]) ?_
                  refine any_cn rfl (fun τ => rfl) (by decide) ?_
                  refine any_n (rfl : _ = [_, _, _, _, _, _, _, _, _, _, _, _, _, _, _, _, _, _, _, _, _, _, _, _, _, _, _, _, _, _]) ?_
                  refine any_cn rfl (fun τ => rfl) (by decide) ?_
                  refine any_n (rfl : _ = [_, _, _, _, _, _, _, _, _, _, _, _, _, _, _, _, _, _, _, _, _, _, _, _, _, _, _, _, _, _, _]) ?_
                  refine any_cn rfl (fun τ => rfl) (by decide) ?_
                  refine any_n (rfl : _ = [_, _, _, _, _, _, _, _, _, _, _, _, _, _, _, _, _, _, _, _, _, _, _, _, _, _, _, _, _, _, _, _]) ?_
                  refine any_cn rfl (fun τ => rfl) (by decide) ?_
                  refine any_n (rfl : _ = [_, _, _, _, _, _, _, _, _, _, _, _, _, _, _, _, _, _, _, _, _, _, _, _, _, _, _, _, _, _, _, _, _]) ?_
                  refine any_cn rfl (fun τ => rfl) (by decide) ?_
                  refine any_n (rfl : _ = [_, _, _, _, _, _, _, _, _, _, _, _, _, _, _, _, _, _, _, _, _, _, _, _, _, _, _, _, _, _, _, _, _, _]) ?_
                  refine any_cn rfl (fun τ => rfl) (by decide) ?_
                  refine any_n (rfl : _ = [_, _, _, _, _, _, _, _, _, _, _, _, _, _, _, _, _, _, _, _, _, _, _, _, _, _, _, _, _, _, _, _, _, _, _]) ?_
                  refine any_cn rfl (fun τ => rfl) (by decide) ?_
                  refine any_n (rfl : _ = [_, _, _, _, _, _, _, _, _, _, _, _, _, _, _, _, _, _, _, _, _, _, _, _, _, _, _, _, _, _, _, _, _, _, _, _]) ?_
                  refine any_cn rfl (fun τ => rfl) (by decide) ?_
                  refine any_n (rfl : _ = [_, _, _, _, _, _, _, _, _, _, _, _, _, _, _, _, _, _, _, _, _, _, _, _, _, _, _, _, _, _, _, _, _, _, _, _, _]) ?_
                  refine any_c (_, []) (fun τ => op_pick _ _ _ rfl (rfl : _ = AV.v (.bool _))) ?_
                  refine any_n (rfl : _ = [_, _, _, _, _, _, _, _, _, _, _, _, _, _, _, _, _, _, _, _, _, _, _, _, _, _, _, _, _, _, _, _, _, _, _, _, _, _]) ?_
                  refine any_end ⟨rfl, ?_⟩
                  refine DL_nil (hK31 _ ?_)
                  clear hK31; try clear K31
                  refine D_cT rfl rfl ?_
                  refine D_seq fun K33 hK33 => ?_
                  refine D_le (σ' := mkStI 178 [] [] [] []) (by
                    refine Le.mkJ [] [] rfl ?_ ?_ trivial trivial ?_
                    · exact trivial
                    · exact trivial
                    · kernel_rfl) ?_
                  refine D_region ?_
                  refine DL_c (op_as _ (rfl : _ = AV.v (.bool _))) ?_
                  refine DL_nil (hK33 _ ?_)
                  clear hK33; try clear K33
                  refine D_ret ?_
                  first | (cases hg95; done) | (cases hg112; done) | (cases hg118; done) | (cases hg129; done) | (cases hg164; done) | exact ret1 (.inr rfl) rfl (.tmp (rfl : _ = AV.v (.bool _))) (Le.out [] [] .v rfl rfl rfl trivial trivial)
                · skip
                  refine any_n (rfl : _ = [_, _, _, _, _, _, _, _, _, _, _, _, _, _, _]) ?_
                  refine any_cy (_, []) rfl (fun τ => rfl) (fun τ => op_mv _ (rfl : _ = AV.fp _ _)) ?_
                  refine any_n (rfl : _ = [_, _, _, _, _, _, _, _, _, _, _, _, _, _, _, _]) ?_
                  refine any_cy (_, []) rfl (fun τ => rfl) (fun τ => op_mv _ (rfl : _ = AV.sl _ _)) ?_
                  refine any_n (rfl : _ = [_, _, _, _, _, _, _, _, _, _, _, _, _, _, _, _, _]) ?_
                  refine any_cy (_, []) rfl (fun τ => rfl) (fun τ => op_mv _ (rfl : _ = AV.v (.int _ _))) ?_
                  refine any_n (rfl : _ = [_, _, _, _, _, _, _, _, _, _, _, _, _, _, _, _, _, _]) ?_
                  first
                    | refine any_cy (_, []) rfl (fun τ => rfl) (fun τ => op_ixS _ _ inferInstance rfl rfl _ rfl (by omega) (by first | assumption | decide | (simp only [isl_len, bsl_len, psl_len, mrows_len, nsl_len, ws_len, List.length_map, ul_len, psl_len, isl_len, nrows_len, prL_len]; omega) | (simp; done) | (simp; omega) | (simp [isl, bsl]; omega)) (by first | exact Nat.mul_one _ | rfl | omega)) ?_
                    | refine any_cy (_, []) rfl (fun τ => rfl) (fun τ => op_ixS _ _ inferInstance rfl rfl (Int.toNat _) (Int.toNat_of_nonneg (by omega)).symm (by omega) (by first | assumption | decide | (simp only [isl_len, bsl_len, psl_len, mrows_len, nsl_len, ws_len, List.length_map, ul_len, psl_len, isl_len, nrows_len, prL_len]; omega) | (simp; done) | (simp; omega) | (simp [isl, bsl]; omega)) (by first | exact Nat.mul_one _ | rfl | omega)) ?_
                  refine any_n (rfl : _ = [_, _, _, _, _, _, _, _, _, _, _, _, _, _, _, _, _, _, _]) ?_
                  refine any_cy (_, []) rfl (fun τ => rfl) (fun τ => op_ldF _ inferInstance rfl (by exact hget) rfl) ?_
                  refine any_n (rfl : _ = [_, _, _, _, _, _, _, _, _, _, _, _, _, _, _, _, _, _, _, _]) ?_
                  first
                    | refine any_cy (_, []) rfl (fun τ => rfl) (fun τ => op_lenS _ inferInstance rfl) ?_
                    | refine any_cy (_, []) rfl (fun τ => rfl) (fun τ => op_lenR _ inferInstance rfl rfl) ?_
                    | refine any_cy (_, []) rfl (fun τ => rfl) (fun τ => op_lenN _ inferInstance rfl) ?_
                    | refine any_cy (_, []) rfl (fun τ => rfl) (fun τ => op_lenB _ inferInstance rfl rfl) ?_
                    | refine any_cy (_, []) rfl (fun τ => rfl) (fun τ => op_lenZ _ inferInstance rfl) ?_
                  refine any_n (rfl : _ = [_, _, _, _, _, _, _, _, _, _, _, _, _, _, _, _, _, _, _, _, _]) ?_
                  refine any_cy (_, []) rfl (fun τ => rfl) (fun τ => (op_callH inferInstance (by repeat' (first | exact argsLv_nil | refine argsLv_cons ?_ ?_ | exact Lv.v | exact lvI (by omega) | exact Lv.sl | exact Lv.fp | exact Lv.nil | refine Lv.agg rfl ?_ | refine Lv.fn rfl ?_ rfl ?_ | exact lv_nil | refine lv_cons ?_ ?_ | exact Lv.z0)) (ancm_no hG) rfl rfl)) ?_
                  refine any_n (rfl : _ = [_, _, _, _, _, _, _, _, _, _, _, _, _, _, _, _, _, _, _, _, _, _]) ?_
                  refine any_cy (_, []) rfl (fun τ => rfl) (fun τ => op_lenS _ inferInstance rfl) ?_
                  refine any_n (rfl : _ = [_, _, _, _, _, _, _, _, _, _, _, _, _, _, _, _, _, _, _, _, _, _, _]) ?_
                  refine any_cy (_, []) rfl (fun τ => rfl) (fun τ => op_neq (r := false) _ _ rfl rfl rfl) ?_
                  refine any_n (rfl : _ = [_, _, _, _, _, _, _, _, _, _, _, _, _, _, _, _, _, _, _, _, _, _, _, _]) ?_
                  refine any_c (_, []) (fun τ => op_pick _ _ _ rfl (rfl : _ = AV.v (.bool _))) ?_
                  refine any_n (rfl : _ = [_, _, _, _, _, _, _, _, _, _, _, _, _, _, _, _, _, _, _, _, _, _, _, _, _]) ?_
                  refine any_c (_, []) (fun τ => op_mv _ (rfl : _ = AV.v (.bool _))) ?_
                  refine any_caseC (fun hg129 => ?_) (fun hg129 => ?_)
                  · skip
                    refine any_n (rfl : _ = [_, _, _, _, _, _, _, _, _, _, _, _, _, _, _, _, _, _, _, _, _, _, _, _, _, _]) ?_
                    refine any_cn rfl (fun τ => rfl) (by decide) ?_
                    refine any_n (rfl : _ = [_, _, _, _, _, _, _, _, _, _, _, _, _, _, _, _, _, _, _, _, _, _, _, _, _, _, _]) ?_
                    refine any_cn rfl (fun τ => rfl) (by decide) ?_
                    refine any_n (rfl : _ = [_, _, _, _, _, _, _, _, _, _, _, _, _, _, _, _, _, _, _, _, _, _, _, _, _, _, _, _]) ?_
                    refine any_cn rfl (fun τ => rfl) (by decide) ?_
                    refine any_n (rfl : _ = [_, _, _, _, _, _, _, _, _, _, _, _, _, _, _, _, _, _, _, _, _, _, _, _, _, _, _, _, _]) ?_
                    refine any_cn rfl (fun τ => rfl) (by decide) ?_
                    refine any_n (rfl : _ = [_, _, _, _, _, _, _, _, _, _, _, _, _, _, _, _, _, _, _, _, _, _, _, _, _, _, _, _, _, _]) ?_
                    refine any_cn rfl (fun τ => rfl) (by decide) ?_
                    refine any_n (rfl : _ = [_, _, _, _, _, _, _, _, _, _, _, _, _, _, _, _, _, _, _, _, _, _, _, _, _, _, _, _, _, _, _]) ?_
                    refine any_cn rfl (fun τ => rfl) (by decide) ?_
                    refine any_n (rfl : _ = [_, _, _, _, _, _, _, _, _, _, _, _, _, _, _, _, _, _, _, _, _, _, _, _, _, _, _, _, _, _, _, _]) ?_
                    refine any_cn rfl (fun τ => rfl) (by decide) ?_
                    refine any_n (rfl : _ = [_, _, _, _, _, _, _, _, _, _, _, _, _, _, _, _, _, _, _, _, _, _, _, _, _, _, _, _, _, _, _, _, _]) ?_
                    refine any_cn rfl (fun τ => rfl) (by decide) ?_
                    refine any_n (rfl : _ = [_, _, _, _, _, _, _, _, _, _, _, _, _, _, _, _, _, _, _, _, _, _, _, _, _, _, _, _, _, _, _, _, _, _]) ?_
                    refine any_cn rfl (fun τ => rfl) (by decide) ?_
                    refine any_n (rfl : _ = [_, _, _, _, _, _, _, _, _, _, _, _, _, _, _, _, _, _, _, _, _, _, _, _, _, _, _, _, _, _, _, _, _, _, _]) ?_
                    refine any_cn rfl (fun τ => rfl) (by decide) ?_
                    refine any_n (rfl : _ = [_, _, _, _, _, _, _, _, _, _, _, _, _, _, _, _, _, _, _, _, _, _, _, _, _, _, _, _, _, _, _, _, _, _, _, _]) ?_
                    refine any_cn rfl (fun τ => rfl) (by decide) ?_
                    refine any_n (rfl : _ = [_, _, _, _, _, _, _, _, _, _, _, _, _, _, _, _, _, _, _, _, _, _, _, _, _, _, _, _, _, _, _, _, _, _, _, _, _]) ?_
                    refine any_c (_, []) (fun τ => op_pick _ _ _ rfl (rfl : _ = AV.v (.bool _))) ?_
                    refine any_n (rfl : _ = [_, _, _, _, _, _, _, _, _, _, _, _, _, _, _, _, _, _, _, _, _, _, _, _, _, _, _, _, _, _, _, _, _, _, _, _, _, _]) ?_
                    refine any_end ⟨rfl, ?_⟩
                    refine DL_nil (hK31 _ ?_)
                    clear hK31; try clear K31
                    refine D_cT rfl rfl ?_
                    refine D_seq fun K34 hK34 => ?_
                    refine D_le (σ' := mkStI 178 [] [] [] []) (by
                      refine Le.mkJ [] [] rfl ?_ ?_ trivial trivial ?_
                      · exact trivial
                      · exact trivial
                      · kernel_rfl) ?_
                    refine D_region ?_
                    refine DL_c (op_as _ (rfl : _ = AV.v (.bool _))) ?_
                    refine DL_nil (hK34 _ ?_)
                    clear hK34; try clear K34
                    refine D_ret ?_
                    first | (cases hg95; done) | (cases hg112; done) | (cases hg118; done) | (cases hg129; done) | (cases hg164; done) | exact ret1 (.inr rfl) rfl (.tmp (rfl : _ = AV.v (.bool _))) (Le.out [] [] .v rfl rfl rfl trivial trivial)
                  · skip
                    refine any_n (rfl : _ = [_, _, _, _, _, _, _, _, _, _, _, _, _, _, _, _, _, _, _, _, _, _, _, _, _, _]) ?_
                    refine any_cy (_, []) rfl (fun τ => rfl) (fun τ => op_mv _ (rfl : _ = AV.fp _ _)) ?_
                    refine any_n (rfl : _ = [_, _, _, _, _, _, _, _, _, _, _, _, _, _, _, _, _, _, _, _, _, _, _, _, _, _, _]) ?_
                    refine any_cy (_, []) rfl (fun τ => rfl) (fun τ => op_mv _ (rfl : _ = AV.v (.int _ _))) ?_
                    refine any_n (rfl : _ = [_, _, _, _, _, _, _, _, _, _, _, _, _, _, _, _, _, _, _, _, _, _, _, _, _, _, _, _]) ?_
                    refine any_cy (_, []) rfl (fun τ => rfl) (fun τ => (op_callH inferInstance (by repeat' (first | exact argsLv_nil | refine argsLv_cons ?_ ?_ | exact Lv.v | exact lvI (by omega) | exact Lv.sl | exact Lv.fp | exact Lv.nil | refine Lv.agg rfl ?_ | refine Lv.fn rfl ?_ rfl ?_ | exact lv_nil | refine lv_cons ?_ ?_ | exact Lv.z0)) (ancm_spec hG v) rfl rfl)) ?_
                    refine any_n (rfl : _ = [_, _, _, _, _, _, _, _, _, _, _, _, _, _, _, _, _, _, _, _, _, _, _, _, _, _, _, _, _]) ?_
                    refine any_cy (_, []) rfl (fun τ => rfl) (fun τ => op_mv _ (rfl : _ = AV.sl _ _)) ?_
                    refine any_n (rfl : _ = [_, _, _, _, _, _, _, _, _, _, _, _, _, _, _, _, _, _, _, _, _, _, _, _, _, _, _, _, _, _]) ?_
                    refine any_cy (_, []) rfl (fun τ => rfl) (fun τ => op_mv _ (rfl : _ = AV.v (.int _ _))) ?_
                    refine any_n (rfl : _ = [_, _, _, _, _, _, _, _, _, _, _, _, _, _, _, _, _, _, _, _, _, _, _, _, _, _, _, _, _, _, _]) ?_
                    first
                      | refine any_cy (_, []) rfl (fun τ => rfl) (fun τ => op_ixS _ _ inferInstance rfl rfl _ rfl (by omega) (by first | assumption | decide | (simp only [isl_len, bsl_len, psl_len, mrows_len, nsl_len, ws_len, List.length_map, ul_len, psl_len, isl_len, nrows_len, prL_len]; omega) | (simp; done) | (simp; omega) | (simp [isl, bsl]; omega)) (by first | exact Nat.mul_one _ | rfl | omega)) ?_
                      | refine any_cy (_, []) rfl (fun τ => rfl) (fun τ => op_ixS _ _ inferInstance rfl rfl (Int.toNat _) (Int.toNat_of_nonneg (by omega)).symm (by omega) (by first | assumption | decide | (simp only [isl_len, bsl_len, psl_len, mrows_len, nsl_len, ws_len, List.length_map, ul_len, psl_len, isl_len, nrows_len, prL_len]; omega) | (simp; done) | (simp; omega) | (simp [isl, bsl]; omega)) (by first | exact Nat.mul_one _ | rfl | omega)) ?_
                    refine any_n (rfl : _ = [_, _, _, _, _, _, _, _, _, _, _, _, _, _, _, _, _, _, _, _, _, _, _, _, _, _, _, _, _, _, _, _]) ?_
                    refine any_cy (_, []) rfl (fun τ => rfl) (fun τ => op_ldF _ inferInstance rfl (by exact hget) rfl) ?_
                    refine any_n (rfl : _ = [_, _, _, _, _, _, _, _, _, _, _, _, _, _, _, _, _, _, _, _, _, _, _, _, _, _, _, _, _, _, _, _, _]) ?_
                    refine any_cy (_, []) rfl (fun τ => rfl) (fun τ => op_mv _ (rfl : _ = AV.v (.int _ _))) ?_
                    refine any_n (rfl : _ = [_, _, _, _, _, _, _, _, _, _, _, _, _, _, _, _, _, _, _, _, _, _, _, _, _, _, _, _, _, _, _, _, _, _]) ?_
                    refine any_cy (_, []) rfl (fun τ => rfl) (fun τ => (op_callH inferInstance (by repeat' (first | exact argsLv_nil | refine argsLv_cons ?_ ?_ | exact Lv.v | exact lvI (by omega) | exact Lv.sl | exact Lv.fp | exact Lv.nil | refine Lv.agg rfl ?_ | refine Lv.fn rfl ?_ rfl ?_ | exact lv_nil | refine lv_cons ?_ ?_ | exact Lv.z0)) (ranc_wat hG v) rfl rfl)) ?_
                    refine any_n (rfl : _ = [_, _, _, _, _, _, _, _, _, _, _, _, _, _, _, _, _, _, _, _, _, _, _, _, _, _, _, _, _, _, _, _, _, _, _]) ?_
                    refine any_cy (_, []) rfl (fun τ => rfl) (fun τ => (op_callH inferInstance (by repeat' (first | exact argsLv_nil | refine argsLv_cons ?_ ?_ | exact Lv.v | exact lvI (by omega) | exact Lv.sl | exact Lv.fp | exact Lv.nil | refine Lv.agg rfl ?_ | refine Lv.fn rfl ?_ rfl ?_ | exact lv_nil | refine lv_cons ?_ ?_ | exact Lv.z0)) (sameNN _ (by have := wat_len (n := Q.length) (ancW Q.length (edg Q Q.length 0)) v; omega)) rfl rfl)) ?_
                    refine any_n (rfl : _ = [_, _, _, _, _, _, _, _, _, _, _, _, _, _, _, _, _, _, _, _, _, _, _, _, _, _, _, _, _, _, _, _, _, _, _, _]) ?_
                    refine any_cy (_, []) rfl (fun τ => rfl) (fun τ => op_not _ rfl rfl) ?_
                    refine any_n (rfl : _ = [_, _, _, _, _, _, _, _, _, _, _, _, _, _, _, _, _, _, _, _, _, _, _, _, _, _, _, _, _, _, _, _, _, _, _, _, _]) ?_
                    refine any_c (_, []) (fun τ => op_pick _ _ _ rfl (rfl : _ = AV.v (.bool _))) ?_
                    refine any_n (rfl : _ = [_, _, _, _, _, _, _, _, _, _, _, _, _, _, _, _, _, _, _, _, _, _, _, _, _, _, _, _, _, _, _, _, _, _, _, _, _, _]) ?_
                    refine any_end ⟨rfl, ?_⟩
                    refine DL_nil (hK31 _ ?_)
                    clear hK31; try clear K31
                    refine D_splitC rfl (fun hc141 => ?_) (fun hc141 => ?_)
                    · skip
                      exact absurd  hc141 (by simp)
                    · skip
                      refine D_skip (hK30 _ ?_)
                      clear hK30; try clear K30
                      refine D_seq fun K35 hK35 => ?_
                      refine D_le (σ' := mkStI 178 [(2, _), (17, _), (18, _), (19, _)] [] [] []) (by
                        refine Le.mkJ [] [] rfl ?_ ?_ trivial trivial ?_
                        · exact ⟨(iV rfl), (iS rfl), (iV rfl), (iF rfl), trivial⟩
                        · exact trivial
                        · kernel_rfl) ?_
                      refine D_region ?_
                      refine DL_c (op_as _ (rfl : _ = AV.v (.int _ _))) ?_
                      refine DL_nil (hK35 _ ?_)
                      clear hK35; try clear K35
                      refine D_block ?_
                      refine D_loopL (α := Nat) (fun u => u ≤ Q.length) 178 [(2, _), (17, _), (18, _), (19, _)] [] (fun u => [(21, .v (.int .i64 (u : Int)))]) (fun u => []) [] [] (fun u => Q.length - u) 0 ?_ (by
                        refine Le.mkJ [] [] rfl ?_ ?_ trivial trivial ?_
                        · exact ⟨(iV rfl), (iS rfl), (iV rfl), (iF rfl), (lvI (by first | rfl | omega | (simp; done) | (simp; omega) | assumption)), trivial⟩
                        · exact trivial
                        · kernel_rfl) ?_
                      · first | omega | trivial | exact ⟨by omega, by omega⟩
                      intro u hu
                      refine D_seq fun K36 hK36 => ?_
                      refine D_seq fun K37 hK37 => ?_
                      refine D_region ?_
                      refine DL_c (op_mv _ (rfl : _ = AV.v (.int _ _))) ?_
                      refine DL_c (op_mv _ (rfl : _ = AV.sl _ _)) ?_
                      refine DL_c (op_mv _ (rfl : _ = AV.v (.int _ _))) ?_
                      first
                        | refine DL_c (op_ixS _ _ inferInstance rfl rfl _ rfl (by omega) (by first | assumption | decide | (simp only [isl_len, bsl_len, psl_len, mrows_len, nsl_len, ws_len, List.length_map, ul_len, psl_len, isl_len, nrows_len, prL_len]; omega) | (simp; done) | (simp; omega) | (simp [isl, bsl]; omega)) (by first | exact Nat.mul_one _ | rfl | omega)) ?_
                        | refine DL_c (op_ixS _ _ inferInstance rfl rfl (Int.toNat _) (Int.toNat_of_nonneg (by omega)).symm (by omega) (by first | assumption | decide | (simp only [isl_len, bsl_len, psl_len, mrows_len, nsl_len, ws_len, List.length_map, ul_len, psl_len, isl_len, nrows_len, prL_len]; omega) | (simp; done) | (simp; omega) | (simp [isl, bsl]; omega)) (by first | exact Nat.mul_one _ | rfl | omega)) ?_
                      refine DL_c (op_ldF _ inferInstance rfl (by exact hget) rfl) ?_
                      first
                        | refine DL_c (op_lenS _ inferInstance rfl) ?_
                        | refine DL_c (op_lenR _ inferInstance rfl rfl) ?_
                        | refine DL_c (op_lenN _ inferInstance rfl) ?_
                        | refine DL_c (op_lenB _ inferInstance rfl rfl) ?_
                        | refine DL_c (op_lenZ _ inferInstance rfl) ?_
                      first
                        | refine DL_c (op_lss _ _ rfl rfl (by assumption)) ?_
                        | refine DL_c (op_lss _ _ rfl rfl rfl) ?_
                      refine DL_nil (hK37 _ ?_)
                      clear hK37; try clear K37
                      refine D_splitC rfl (fun hc148 => ?_) (fun hc148 => ?_)
                      · skip
                        have hul := upE_len Q u
                        have hnq : (nrows Q).length = Q.length := nrows_len Q
                        have hmu := hG.m u
                        refine D_skip (hK36 _ ?_)
                        clear hK36; try clear K36
                        refine D_seq fun K38 hK38 => ?_
                        refine D_block ?_
                        refine D_seq fun K39 hK39 => ?_
                        refine D_le (σ' := mkStI 178 [(2, _), (17, _), (18, _), (19, _), (21, _)] [] [] []) (by
                          refine Le.mkJ [] [] rfl ?_ ?_ trivial trivial ?_
                          · exact ⟨(iV rfl), (iS rfl), (iV rfl), (iF rfl), (iV rfl), trivial⟩
                          · exact trivial
                          · kernel_rfl) ?_
                        refine D_anyL 26 [151, 152, 153, 154, 155, 156, 157, 158, 159, 160, 161, 162, 163, 164, 165, 166, 167, 168, 169, 170, 171, 172, 173, 174, 175, 176] [] (by kernel_rfl) (by kernel_rfl) rfl (nodupO_iff rfl) (rfl : _ = [_, _, _, _, _, _, _, _, _, _, _, _, _, _, _, _, _, _, _, _, _, _, _, _, _, _]) (rfl : _ = []) ?_
                        refine any_c (_, []) (fun τ => op_mv _ (rfl : _ = AV.fp _ _)) ?_
                        refine any_n (rfl : _ = [_]) ?_
                        refine any_c (_, []) (fun τ => op_mv _ (rfl : _ = AV.v (.int _ _))) ?_
                        refine any_n (rfl : _ = [_, _]) ?_
                        refine any_c (_, []) (fun τ => (op_callH inferInstance (by repeat' (first | exact argsLv_nil | refine argsLv_cons ?_ ?_ | exact Lv.v | exact lvI (by omega) | exact Lv.sl | exact Lv.fp | exact Lv.nil | refine Lv.agg rfl ?_ | refine Lv.fn rfl ?_ rfl ?_ | exact lv_nil | refine lv_cons ?_ ?_ | exact Lv.z0)) (parm_spec hG u) rfl rfl)) ?_
                        refine any_n (rfl : _ = [_, _, _]) ?_
                        refine any_c (_, []) (fun τ => op_mv _ (rfl : _ = AV.sl _ _)) ?_
                        refine any_n (rfl : _ = [_, _, _, _]) ?_
                        refine any_c (_, []) (fun τ => op_mv _ (rfl : _ = AV.v (.int _ _))) ?_
                        refine any_n (rfl : _ = [_, _, _, _, _]) ?_
                        first
                          | refine any_c (_, []) (fun τ => op_ixS _ _ inferInstance rfl rfl _ rfl (by omega) (by first | assumption | decide | (simp only [isl_len, bsl_len, psl_len, mrows_len, nsl_len, ws_len, List.length_map, ul_len, psl_len, isl_len, nrows_len, prL_len]; omega) | (simp; done) | (simp; omega) | (simp [isl, bsl]; omega)) (by first | exact Nat.mul_one _ | rfl | omega)) ?_
                          | refine any_c (_, []) (fun τ => op_ixS _ _ inferInstance rfl rfl (Int.toNat _) (Int.toNat_of_nonneg (by omega)).symm (by omega) (by first | assumption | decide | (simp only [isl_len, bsl_len, psl_len, mrows_len, nsl_len, ws_len, List.length_map, ul_len, psl_len, isl_len, nrows_len, prL_len]; omega) | (simp; done) | (simp; omega) | (simp [isl, bsl]; omega)) (by first | exact Nat.mul_one _ | rfl | omega)) ?_
                        refine any_n (rfl : _ = [_, _, _, _, _, _]) ?_
                        refine any_c (_, []) (fun τ => op_ldF _ inferInstance rfl (by exact hget) rfl) ?_
                        refine any_n (rfl : _ = [_, _, _, _, _, _, _]) ?_
                        refine any_c (_, []) (fun τ => op_mv _ (rfl : _ = AV.v (.int _ _))) ?_
                        refine any_n (rfl : _ = [_, _, _, _, _, _, _, _]) ?_
                        refine any_c (_, []) (fun τ => op_ixS _ _ inferInstance rfl rfl u rfl (by omega) (by omega) (Nat.mul_one _)) ?_
                        refine any_n (rfl : _ = [_, _, _, _, _, _, _, _, _]) ?_
                        refine any_c (_, []) (fun τ => op_ldF _ inferInstance rfl (by exact nrows_get _ _ (by omega)) rfl) ?_
                        refine any_n (rfl : _ = [_, _, _, _, _, _, _, _, _, _]) ?_
                        refine any_c (_, []) (fun τ => (op_callH inferInstance (by repeat' (first | exact argsLv_nil | refine argsLv_cons ?_ ?_ | exact Lv.v | exact lvI (by omega) | exact Lv.sl | exact Lv.fp | exact Lv.nil | refine Lv.agg rfl ?_ | refine Lv.fn rfl ?_ rfl ?_ | exact lv_nil | refine lv_cons ?_ ?_ | exact Lv.z0)) (sorted_spec (Q.getD u []).length (Q.getD u []) rfl (by omega)) rfl rfl)) ?_
                        refine any_n (rfl : _ = [_, _, _, _, _, _, _, _, _, _, _]) ?_
                        refine any_c (_, []) (fun τ => (op_callH inferInstance (by repeat' (first | exact argsLv_nil | refine argsLv_cons ?_ ?_ | exact Lv.v | exact lvI (by omega) | exact Lv.sl | exact Lv.fp | exact Lv.nil | refine Lv.agg rfl ?_ | refine Lv.fn rfl ?_ rfl ?_ | exact lv_nil | refine lv_cons ?_ ?_ | exact Lv.z0)) (same_par hG (by omega)) rfl rfl)) ?_
                        refine any_n (rfl : _ = [_, _, _, _, _, _, _, _, _, _, _, _]) ?_
                        refine any_c (_, []) (fun τ => op_not _ rfl rfl) ?_
                        refine any_n (rfl : _ = [_, _, _, _, _, _, _, _, _, _, _, _, _]) ?_
                        refine any_c (_, []) (fun τ => op_mv _ (rfl : _ = AV.v (.bool _))) ?_
                        refine any_caseC (fun hg164 => ?_) (fun hg164 => ?_)
                        · skip
                          refine any_n (rfl : _ = [_, _, _, _, _, _, _, _, _, _, _, _, _, _]) ?_
                          refine any_cn rfl (fun τ => rfl) (by decide) ?_
                          refine any_n (rfl : _ = [_, _, _, _, _, _, _, _, _, _, _, _, _, _, _]) ?_
                          refine any_cn rfl (fun τ => rfl) (by decide) ?_
                          refine any_n (rfl : _ = [_, _, _, _, _, _, _, _, _, _, _, _, _, _, _, _]) ?_
                          refine any_cn rfl (fun τ => rfl) (by decide) ?_
                          refine any_n (rfl : _ = [_, _, _, _, _, _, _, _, _, _, _, _, _, _, _, _, _]) ?_
                          refine any_cn rfl (fun τ => rfl) (by decide) ?_
                          refine any_n (rfl : _ = [_, _, _, _, _, _, _, _, _, _, _, _, _, _, _, _, _, _]) ?_
                          refine any_cn rfl (fun τ => rfl) (by decide) ?_
                          refine any_n (rfl : _ = [_, _, _, _, _, _, _, _, _, _, _, _, _, _, _, _, _, _, _]) ?_
                          refine any_cn rfl (fun τ => rfl) (by decide) ?_
                          refine any_n (rfl : _ = [_, _, _, _, _, _, _, _, _, _, _, _, _, _, _, _, _, _, _, _]) ?_
                          refine any_cn rfl (fun τ => rfl) (by decide) ?_
                          refine any_n (rfl : _ = [_, _, _, _, _, _, _, _, _, _, _, _, _, _, _, _, _, _, _, _, _]) ?_
                          refine any_cn rfl (fun τ => rfl) (by decide) ?_
                          refine any_n (rfl : _ = [_, _, _, _, _, _, _, _, _, _, _, _, _, _, _, _, _, _, _, _, _, _]) ?_
                          refine any_cn rfl (fun τ => rfl) (by decide) ?_
                          refine any_n (rfl : _ = [_, _, _, _, _, _, _, _, _, _, _, _, _, _, _, _, _, _, _, _, _, _, _]) ?_
                          refine any_cn rfl (fun τ => rfl) (by decide) ?_
                          refine any_n (rfl : _ = [_, _, _, _, _, _, _, _, _, _, _, _, _, _, _, _, _, _, _, _, _, _, _, _]) ?_
                          refine any_cn rfl (fun τ => rfl) (by decide) ?_
                          refine any_n (rfl : _ = [_, _, _, _, _, _, _, _, _, _, _, _, _, _, _, _, _, _, _, _, _, _, _, _, _]) ?_
                          refine any_c (_, []) (fun τ => op_pick _ _ _ rfl (rfl : _ = AV.v (.bool _))) ?_
                          refine any_n (rfl : _ = [_, _, _, _, _, _, _, _, _, _, _, _, _, _, _, _, _, _, _, _, _, _, _, _, _, _]) ?_
                          refine any_end ⟨rfl, ?_⟩
                          refine DL_nil (hK39 _ ?_)
                          clear hK39; try clear K39
                          refine D_cT rfl rfl ?_
                          refine D_seq fun K40 hK40 => ?_
                          refine D_le (σ' := mkStI 178 [] [] [] []) (by
                            refine Le.mkJ [] [] rfl ?_ ?_ trivial trivial ?_
                            · exact trivial
                            · exact trivial
                            · kernel_rfl) ?_
                          refine D_region ?_
                          refine DL_c (op_as _ (rfl : _ = AV.v (.bool _))) ?_
                          refine DL_nil (hK40 _ ?_)
                          clear hK40; try clear K40
                          refine D_ret ?_
                          first | (cases hg95; done) | (cases hg112; done) | (cases hg118; done) | (cases hg129; done) | (cases hg164; done) | exact ret1 (.inr rfl) rfl (.tmp (rfl : _ = AV.v (.bool _))) (Le.out [] [] .v rfl rfl rfl trivial trivial)
                        · skip
                          refine any_n (rfl : _ = [_, _, _, _, _, _, _, _, _, _, _, _, _, _]) ?_
                          refine any_cy (_, []) rfl (fun τ => rfl) (fun τ => op_mv _ (rfl : _ = AV.fp _ _)) ?_
                          refine any_n (rfl : _ = [_, _, _, _, _, _, _, _, _, _, _, _, _, _, _]) ?_
                          refine any_cy (_, []) rfl (fun τ => rfl) (fun τ => op_mv _ (rfl : _ = AV.v (.int _ _))) ?_
                          refine any_n (rfl : _ = [_, _, _, _, _, _, _, _, _, _, _, _, _, _, _, _]) ?_
                          refine any_cy (_, []) rfl (fun τ => rfl) (fun τ => (op_callH inferInstance (by repeat' (first | exact argsLv_nil | refine argsLv_cons ?_ ?_ | exact Lv.v | exact lvI (by omega) | exact Lv.sl | exact Lv.fp | exact Lv.nil | refine Lv.agg rfl ?_ | refine Lv.fn rfl ?_ rfl ?_ | exact lv_nil | refine lv_cons ?_ ?_ | exact Lv.z0)) (ancsN_spec rfl hG.n64 (parW Q) u) rfl rfl)) ?_
                          refine any_n (rfl : _ = [_, _, _, _, _, _, _, _, _, _, _, _, _, _, _, _, _]) ?_
                          refine any_cy (_, []) rfl (fun τ => rfl) (fun τ => op_mv _ (rfl : _ = AV.sl _ _)) ?_
                          refine any_n (rfl : _ = [_, _, _, _, _, _, _, _, _, _, _, _, _, _, _, _, _, _]) ?_
                          refine any_cy (_, []) rfl (fun τ => rfl) (fun τ => op_mv _ (rfl : _ = AV.v (.int _ _))) ?_
                          refine any_n (rfl : _ = [_, _, _, _, _, _, _, _, _, _, _, _, _, _, _, _, _, _, _]) ?_
                          first
                            | refine any_cy (_, []) rfl (fun τ => rfl) (fun τ => op_ixS _ _ inferInstance rfl rfl _ rfl (by omega) (by first | assumption | decide | (simp only [isl_len, bsl_len, psl_len, mrows_len, nsl_len, ws_len, List.length_map, ul_len, psl_len, isl_len, nrows_len, prL_len]; omega) | (simp; done) | (simp; omega) | (simp [isl, bsl]; omega)) (by first | exact Nat.mul_one _ | rfl | omega)) ?_
                            | refine any_cy (_, []) rfl (fun τ => rfl) (fun τ => op_ixS _ _ inferInstance rfl rfl (Int.toNat _) (Int.toNat_of_nonneg (by omega)).symm (by omega) (by first | assumption | decide | (simp only [isl_len, bsl_len, psl_len, mrows_len, nsl_len, ws_len, List.length_map, ul_len, psl_len, isl_len, nrows_len, prL_len]; omega) | (simp; done) | (simp; omega) | (simp [isl, bsl]; omega)) (by first | exact Nat.mul_one _ | rfl | omega)) ?_
                          refine any_n (rfl : _ = [_, _, _, _, _, _, _, _, _, _, _, _, _, _, _, _, _, _, _, _]) ?_
                          refine any_cy (_, []) rfl (fun τ => rfl) (fun τ => op_ldF _ inferInstance rfl (by exact hget) rfl) ?_
                          refine any_n (rfl : _ = [_, _, _, _, _, _, _, _, _, _, _, _, _, _, _, _, _, _, _, _, _]) ?_
                          refine any_cy (_, []) rfl (fun τ => rfl) (fun τ => op_mv _ (rfl : _ = AV.v (.int _ _))) ?_
                          refine any_n (rfl : _ = [_, _, _, _, _, _, _, _, _, _, _, _, _, _, _, _, _, _, _, _, _, _]) ?_
                          refine any_cy (_, []) rfl (fun τ => rfl) (fun τ => (op_callH inferInstance (by repeat' (first | exact argsLv_nil | refine argsLv_cons ?_ ?_ | exact Lv.v | exact lvI (by omega) | exact Lv.sl | exact Lv.fp | exact Lv.nil | refine Lv.agg rfl ?_ | refine Lv.fn rfl ?_ rfl ?_ | exact lv_nil | refine lv_cons ?_ ?_ | exact Lv.z0)) (rancN_spec Q.length Q hG u) rfl rfl)) ?_
                          refine any_n (rfl : _ = [_, _, _, _, _, _, _, _, _, _, _, _, _, _, _, _, _, _, _, _, _, _, _]) ?_
                          refine any_cy (_, []) rfl (fun τ => rfl) (fun τ => (op_callH inferInstance (by repeat' (first | exact argsLv_nil | refine argsLv_cons ?_ ?_ | exact Lv.v | exact lvI (by omega) | exact Lv.sl | exact Lv.fp | exact Lv.nil | refine Lv.agg rfl ?_ | refine Lv.fn rfl ?_ rfl ?_ | exact lv_nil | refine lv_cons ?_ ?_ | exact Lv.z0)) (sameNN _ (by omega)) rfl rfl)) ?_
                          refine any_n (rfl : _ = [_, _, _, _, _, _, _, _, _, _, _, _, _, _, _, _, _, _, _, _, _, _, _, _]) ?_
                          refine any_cy (_, []) rfl (fun τ => rfl) (fun τ => op_not _ rfl rfl) ?_
                          refine any_n (rfl : _ = [_, _, _, _, _, _, _, _, _, _, _, _, _, _, _, _, _, _, _, _, _, _, _, _, _]) ?_
                          refine any_c (_, []) (fun τ => op_pick _ _ _ rfl (rfl : _ = AV.v (.bool _))) ?_
                          refine any_n (rfl : _ = [_, _, _, _, _, _, _, _, _, _, _, _, _, _, _, _, _, _, _, _, _, _, _, _, _, _]) ?_
                          refine any_end ⟨rfl, ?_⟩
                          refine DL_nil (hK39 _ ?_)
                          clear hK39; try clear K39
                          refine D_splitC rfl (fun hc176 => ?_) (fun hc176 => ?_)
                          · skip
                            exact absurd  hc176 (by simp)
                          · skip
                            refine D_skip (hK38 _ ?_)
                            clear hK38; try clear K38
                            refine D_le (σ' := mkStI 178 [(2, _), (17, _), (18, _), (19, _), (21, _)] [] [] []) (by
                              refine Le.mkJ [] [] rfl ?_ ?_ trivial trivial ?_
                              · exact ⟨(iV rfl), (iS rfl), (iV rfl), (iF rfl), (iV rfl), trivial⟩
                              · exact trivial
                              · kernel_rfl) ?_
                            refine D_region ?_
                            refine DL_c (op_mv _ (rfl : _ = AV.v (.int _ _))) ?_
                            first
                              | refine DL_c (op_add _ _ rfl rfl (i64w (by omega))) ?_
                              | refine DL_c (op_add _ _ rfl rfl rfl) ?_
                            refine DL_c (op_as _ (rfl : _ = AV.v (.int _ _))) ?_
                            refine DL_nil ?_
                            refine ⟨u + 1, ?_, ?_, ?_⟩
                            · first | omega | trivial | exact ⟨by omega, by omega⟩
                            · skip
                              refine Le.mkJ [] [] rfl ?_ ?_ trivial trivial ?_
                              · exact ⟨(iV rfl), (iS rfl), (iV rfl), (iF rfl), (lvI (by first | rfl | omega | (simp; done) | (simp; omega) | assumption)), trivial⟩
                              · exact trivial
                              · kernel_rfl
                            · omega
                      · skip
                        refine D_exit ?_
                        refine id (hK18 _ ?_)
                        clear hK18; try clear K18
                        refine D_region ?_
                        refine DL_c (op_mv _ (rfl : _ = AV.v (.int _ _))) ?_
                        first
                          | refine DL_c (op_add _ _ rfl rfl (i64w (by omega))) ?_
                          | refine DL_c (op_add _ _ rfl rfl rfl) ?_
                        refine DL_c (op_as _ (rfl : _ = AV.v (.int _ _))) ?_
                        refine DL_nil ?_
                        refine ⟨j + 1, ?_, ?_, ?_⟩
                        · first | omega | trivial | exact ⟨by omega, by omega⟩
                        · skip
                          refine Le.mkJ [] [] rfl ?_ ?_ trivial trivial ?_
                          · exact ⟨(iV rfl), (iS rfl), (lvI (by first | rfl | omega | (simp; done) | (simp; omega) | assumption)), trivial⟩
                          · exact trivial
                          · kernel_rfl
                        · omega
      · skip
        refine D_exit ?_
        refine id (hK14 _ ?_)
        clear hK14; try clear K14
        refine D_seq fun K41 hK41 => ?_
        refine D_region ?_
        refine DL_c (op_callH inferInstance (by repeat' (first | exact argsLv_nil | refine argsLv_cons ?_ ?_ | exact Lv.v | exact lvI (by omega) | exact Lv.sl | exact Lv.fp | exact Lv.nil | refine Lv.agg rfl ?_ | refine Lv.fn rfl ?_ rfl ?_ | exact lv_nil | refine lv_cons ?_ ?_ | exact Lv.z0)) (livesv_spec) rfl rfl) ?_
        refine DL_c (op_as _ (rfl : _ = AV.v (.bool _))) ?_
        refine DL_nil (hK41 _ ?_)
        clear hK41; try clear K41
        refine D_ret ?_
        first | (cases hg95; done) | (cases hg112; done) | (cases hg118; done) | (cases hg129; done) | (cases hg164; done) | exact ret1 (.inr rfl) rfl (.tmp (rfl : _ = AV.v (.bool _))) (Le.out [] [] .v rfl rfl rfl trivial trivial)
  · skip
    have hfb := fewL_bq raw (i := i) (by omega)
    refine DL_cn rfl rfl (by decide) ?_
    refine DL_cn rfl rfl (by decide) ?_
    refine DL_c (op_pick _ _ _ rfl (rfl : _ = AV.v (.bool _))) ?_
    refine DL_nil (hK6 _ ?_)
    clear hK6; try clear K6
    refine D_cF rfl rfl ?_
    refine D_exit ?_
    refine id (hK3 _ ?_)
    clear hK3; try clear K3
    refine D_seq fun K42 hK42 => ?_
    refine D_region ?_
    refine DL_c (op_mv _ (rfl : _ = AV.sl _ _)) ?_
    refine DL_c (op_callH inferInstance (by repeat' (first | exact argsLv_nil | refine argsLv_cons ?_ ?_ | exact Lv.v | exact lvI (by omega) | exact Lv.sl | exact Lv.fp | exact Lv.nil | refine Lv.agg rfl ?_ | refine Lv.fn rfl ?_ rfl ?_ | exact lv_nil | refine lv_cons ?_ ?_ | exact Lv.z0)) (hP) rfl rfl) ?_
    refine DL_c (op_as _ (rfl : _ = AV.sl _ _)) ?_
    refine DL_nil (hK42 _ ?_)
    clear hK42; try clear K42
    refine D_seq fun K43 hK43 => ?_
    refine D_region ?_
    refine DL_c (op_bs (42, 0) _ _ inferInstance rfl (by rfl) (by simp <;> rfl) (by decide) rfl rfl) ?_
    refine DL_c (op_mv _ (rfl : _ = AV.sl _ _)) ?_
    refine DL_c (op_ap (44, 0) _ _ inferInstance rfl rfl (by rfl) (.sl (by omega)) (by omega) rfl rfl (Nat.zero_add n)) ?_
    refine DL_c (op_as _ (rfl : _ = AV.ref _ _ _)) ?_
    refine DL_nil (hK43 _ ?_)
    clear hK43; try clear K43
    refine D_seq fun K44 hK44 => ?_
    refine D_le (σ' := mkStI 178 [(2, _), (3, _), (4, _), (11, _), (13, _), (14, _)] [((11, 0), _), ((44, 0), _)] [] []) (by
      refine Le.mkJ [] [] rfl ?_ ?_ trivial trivial ?_
      · exact ⟨(iV rfl), (iV rfl), (iV rfl), (iR rfl), (iS rfl), (iR rfl), trivial⟩
      · exact ⟨(obE rfl rfl rfl), (obE rfl rfl rfl), trivial⟩
      · kernel_rfl) ?_
    refine D_region ?_
    refine DL_c (op_mv _ (rfl : _ = AV.v (.int _ _))) ?_
    refine DL_c (op_mv _ (rfl : _ = AV.ref _ _ _)) ?_
    first
      | refine DL_c (op_lenR _ inferInstance rfl rfl) ?_
      | refine DL_c (op_lenB _ inferInstance rfl rfl) ?_
    refine DL_c (op_callH inferInstance (by repeat' (first | exact argsLv_nil | refine argsLv_cons ?_ ?_ | exact Lv.v | exact lvI (by omega) | exact Lv.sl | exact Lv.fp | exact Lv.nil | refine Lv.agg rfl ?_ | refine Lv.fn rfl ?_ rfl ?_ | exact lv_nil | refine lv_cons ?_ ?_ | exact Lv.z0)) (hk ▸ around_spec v n (by omega) (by omega) hv0.1 hv0.2) rfl rfl) ?_
    refine DL_c (op_as _ (rfl : _ = AV.v (.int _ _))) ?_
    refine DL_nil (hK44 _ ?_)
    clear hK44; try clear K44
    refine D_seq fun K45 hK45 => ?_
    refine D_region ?_
    refine DL_c (op_mv _ (rfl : _ = AV.ref _ _ _)) ?_
    refine DL_c (op_mv _ (rfl : _ = AV.v (.int _ _))) ?_
    refine DL_c (op_mv _ (rfl : _ = AV.ref _ _ _)) ?_
    refine DL_c (op_mv _ (rfl : _ = AV.v (.int _ _))) ?_
    refine DL_c (op_ixR _ _ inferInstance rfl rfl rfl k rfl (by omega) (by exact (Nat.zero_add _).trans (Nat.mul_one _))) ?_
    refine DL_c (op_ldR _ inferInstance rfl rfl (by exact nrows_get _ _ (by omega)) rfl) ?_
    refine DL_c (op_callR inferInstance [((0, 8), (50, 0))] ?_ ((ints4_own (Ps.getD k [])).toI) trivial ⟨rfl, trivial⟩ (by kernel_rfl)) ?_
    · repeat' (first | exact argsR_nil | refine argsR_cons ?_ ?_ | exact Lv.v | exact lvI (by assumption) | exact lvI (by omega) | exact Lv.sl | exact Lv.fp | exact Lv.nil | exact lvRr rfl rfl | exact lvPr rfl | refine Lv.agg rfl ?_ | refine Lv.fn rfl ?_ rfl ?_ | refine Lv.ifc ?_ | exact lv_nil | refine lv_cons ?_ ?_)
    refine DL_c (op_mv _ (rfl : _ = AV.v (.int _ _))) ?_
    refine DL_c (op_mv _ (rfl : _ = AV.ref _ _ _)) ?_
    first
      | refine DL_c (op_lenR _ inferInstance rfl rfl) ?_
      | refine DL_c (op_lenB _ inferInstance rfl rfl) ?_
    first
      | refine DL_c (op_add _ _ rfl rfl (i64w (by omega))) ?_
      | refine DL_c (op_add _ _ rfl rfl rfl) ?_
    refine DL_c (op_callH inferInstance (by repeat' (first | exact argsLv_nil | refine argsLv_cons ?_ ?_ | exact Lv.v | exact lvI (by omega) | exact Lv.sl | exact Lv.fp | exact Lv.nil | refine Lv.agg rfl ?_ | refine Lv.fn rfl ?_ rfl ?_ | exact lv_nil | refine lv_cons ?_ ?_ | exact Lv.z0)) (hx ▸ around_spec p ((n : Int) + 2) (by omega) (by omega) hp0.1 hp0.2) rfl rfl) ?_
    first
      | refine DL_c (op_sub _ _ rfl rfl (i64w (by omega))) ?_
      | refine DL_c (op_sub _ _ rfl rfl rfl) ?_
    refine DL_c (op_bsF _ _ inferInstance rfl (by rfl) (by simp <;> rfl) (by decide) rfl) ?_
    refine DL_c (op_ap (k := ((Ps.getD k []).take 4 ++ [x - 1]).length) (63, 0) _ _ inferInstance rfl rfl (by rw [isl_len]; omega) (.sl rfl) (by have := List.length_take (i := 4) (l := Ps.getD k []); omega) rfl (isl_append _ [x - 1]) (by rw [List.length_append]; rfl)) ?_
    refine DL_le (Le.frzS (ys := isl ((Ps.getD k []).take 4 ++ [x - 1])) 63 rfl rfl rfl (by rw [List.drop_zero, Nat.mul_one]; exact List.take_of_length_le (by rw [isl_len]; omega)) (by rw [isl_len]; omega)) ?_
    refine DL_c (op_ixR _ _ inferInstance rfl rfl rfl k rfl (by omega) (by exact (Nat.zero_add _).trans (Nat.mul_one _))) ?_
    refine DL_c (op_stR _ _ inferInstance rfl rfl rfl rfl rfl (by rw [nrows_len, hPn]; simp only [List.length_cons, List.length_nil]; omega) (nrows_put _ _ _ (by omega))) ?_
    refine DL_nil (hK45 _ ?_)
    clear hK45; try clear K45
    refine D_seq fun K46 hK46 => ?_
    refine D_le (σ' := mkStI 178 [(2, _), (4, _), (11, _), (13, _), (14, _)] [((11, 0), _), ((44, 0), _)] [] []) (by
      refine Le.mkJ [] [] rfl ?_ ?_ trivial trivial ?_
      · exact ⟨(iV rfl), (iV rfl), (iR rfl), (iS rfl), (iR rfl), trivial⟩
      · exact ⟨(obE rfl rfl rfl), (obE rfl rfl rfl), trivial⟩
      · kernel_rfl) ?_
    refine D_region ?_
    refine DL_c (op_mv _ (rfl : _ = AV.v (.int _ _))) ?_
    refine DL_c (op_callH inferInstance (by repeat' (first | exact argsLv_nil | refine argsLv_cons ?_ ?_ | exact Lv.v | exact lvI (by omega) | exact Lv.sl | exact Lv.fp | exact Lv.nil | refine Lv.agg rfl ?_ | refine Lv.fn rfl ?_ rfl ?_ | exact lv_nil | refine lv_cons ?_ ?_ | exact Lv.z0)) (hq ▸ around_spec many 10 (by omega) (by omega) hm0.1 hm0.2) rfl rfl) ?_
    first
      | refine DL_c (op_add _ _ rfl rfl (i64w (by omega))) ?_
      | refine DL_c (op_add _ _ rfl rfl rfl) ?_
    refine DL_c (op_mk (xs := List.replicate (60 + q) (.v (.slice none 0 0))) (68, 0) _ _ inferInstance rfl rfl (60 + q) (by omega) (by omega) (by omega) rfl (rep_nils _)) ?_
    refine DL_c (op_as _ (rfl : _ = AV.ref _ _ _)) ?_
    refine DL_nil (hK46 _ ?_)
    clear hK46; try clear K46
    refine D_seq fun K47 hK47 => ?_
    refine D_le (Le.trans (Le.frzS (ys := nrows (fewL raw i)) 11 rfl rfl rfl (by rw [List.drop_zero, Nat.mul_one]; exact List.take_of_length_le (by rw [nrows_len, hfl]; omega)) (by rw [nrows_len, hfl]; omega)) (Le.trans (Le.frzS (ys := nrows (Ps.set k ((Ps.getD k []).take 4 ++ [x - 1]))) 14 rfl rfl rfl (by rw [List.drop_zero, Nat.mul_one]; exact List.take_of_length_le (by rw [nrows_len, List.length_set]; omega)) (by rw [nrows_len, List.length_set]; omega)) (Le.trans (Le.frzS (ys := nrows (List.replicate (60 + q) [])) 16 rfl rfl rfl (by rw [List.drop_zero, Nat.mul_one, nrows_nils]; exact List.take_of_length_le (by simp)) (by simp)) (Le.nilsR (68, 0) (60 + q) rfl)))) ?_
    refine D_region ?_
    refine DL_c (op_mv _ (rfl : _ = AV.sl _ _)) ?_
    refine DL_c (op_mv _ (rfl : _ = AV.sl _ _)) ?_
    refine DL_c (op_mv _ (rfl : _ = AV.sl _ _)) ?_
    refine DL_c (op_mv _ (rfl : _ = AV.sl _ _)) ?_
    refine DL_c (op_bsF _ _ inferInstance rfl (by rfl) (by simp <;> rfl) (by decide) rfl) ?_
    refine DL_c (op_as _ (rfl : _ = AV.sl _ _)) ?_
    refine DL_nil (hK47 _ ?_)
    clear hK47; try clear K47
    refine D_seq fun K48 hK48 => ?_
    refine D_seq fun K49 hK49 => ?_
    refine D_region ?_
    refine DL_c (op_as _ (rfl : _ = AV.v (.int _ _))) ?_
    refine DL_nil (hK49 _ ?_)
    clear hK49; try clear K49
    refine D_block ?_
    refine D_loopL (α := Nat) (fun j => j ≤ 4) 178 [(2, _), (17, _)] [] (fun j => [(18, .v (.int .i64 (j : Int)))]) (fun j => []) [] [] (fun j => 4 - j) 0 ?_ (by
      refine Le.mkJ [] [] rfl ?_ ?_ trivial trivial ?_
      · exact ⟨(iV rfl), (iS rfl), (lvI (by first | rfl | omega | (simp; done) | (simp; omega) | assumption)), trivial⟩
      · exact trivial
      · kernel_rfl) ?_
    · first | omega | trivial | exact ⟨by omega, by omega⟩
    intro j hj
    refine D_seq fun K50 hK50 => ?_
    refine D_seq fun K51 hK51 => ?_
    refine D_region ?_
    refine DL_c (op_mv _ (rfl : _ = AV.v (.int _ _))) ?_
    refine DL_c (op_mv _ (rfl : _ = AV.sl _ _)) ?_
    refine DL_c (op_lenS _ inferInstance rfl) ?_
    first
      | refine DL_c (op_lss _ _ rfl rfl (by assumption)) ?_
      | refine DL_c (op_lss _ _ rfl rfl rfl) ?_
    refine DL_nil (hK51 _ ?_)
    clear hK51; try clear K51
    refine D_splitC rfl (fun hc77 => ?_) (fun hc77 => ?_)
    · skip
      have hget := qrow2_get [(i, fewL raw i), (n, Ps), (n, Ps.set k ((Ps.getD k []).take 4 ++ [x - 1])), (60 + q, List.replicate (60 + q) [])] j (by simp only [List.length_cons, List.length_nil]; omega)
      have hb : (([(i, fewL raw i), (n, Ps), (n, Ps.set k ((Ps.getD k []).take 4 ++ [x - 1])), (60 + q, List.replicate (60 + q) [])] : List (Nat × List (List Int))).getD j (0, [])).2.length = (([(i, fewL raw i), (n, Ps), (n, Ps.set k ((Ps.getD k []).take 4 ++ [x - 1])), (60 + q, List.replicate (60 + q) [])] : List (Nat × List (List Int))).getD j (0, [])).1 ∧ BQ (([(i, fewL raw i), (n, Ps), (n, Ps.set k ((Ps.getD k []).take 4 ++ [x - 1])), (60 + q, List.replicate (60 + q) [])] : List (Nat × List (List Int))).getD j (0, [])).2 := by
        have hj4 : j = 0 ∨ j = 1 ∨ j = 2 ∨ j = 3 := by omega
        rcases hj4 with rfl | rfl | rfl | rfl
        · exact ⟨hfl, hfb⟩
        · exact ⟨hPn, hN.bq⟩
        · exact ⟨by show (Ps.set k _).length = n; rw [List.length_set]; exact hPn, hN.turned k _ (by rw [List.length_append, List.length_take, List.length_singleton]; omega)⟩
        · exact ⟨by show (List.replicate (60 + q) ([] : List Int)).length = 60 + q; simp, BQ.wide _ (by omega)⟩
      generalize hB : ([(i, fewL raw i), (n, Ps), (n, Ps.set k ((Ps.getD k []).take 4 ++ [x - 1])), (60 + q, List.replicate (60 + q) [])] : List (Nat × List (List Int))).getD j (0, []) = b at hget hb
      obtain ⟨N, Q⟩ := b
      obtain ⟨hqn, hBQ⟩ := hb
      simp only at hqn hBQ hget
      subst hqn
      have hNv := vnew_spec Q.length Q rfl hBQ.n hBQ.m hBQ.s
      have hVS : ∀ r, newV Q = r → Spec Try.prog 58 (inSt [.sl Q.length (nrows Q)] []) (outSt r []) := fun r h => by rw [← h]; exact hNv
      have hRv := rnew32_spec Q.length Q rfl hBQ.n fun v => by have := hBQ.m v; omega
      have hRS : ∀ e, newRr Q = e → Spec Try.prog 63 (inSt [.sl Q.length (nrows Q)] []) (outSt (.v (.int .i64 e)) []) := fun e h => by rw [← h]; exact hRv
      have hQ1 := hBQ.n
      refine D_skip (hK50 _ ?_)
      clear hK50; try clear K50
      refine D_seq fun K52 hK52 => ?_
      refine D_block ?_
      refine D_seq fun K53 hK53 => ?_
      rcases build_cases hBQ with ⟨e, he0, hnv, hnr2⟩ | ⟨hG, hnv, hnr2⟩
      · skip
        refine D_region ?_
        refine DL_c (op_mv _ (rfl : _ = AV.sl _ _)) ?_
        refine DL_c (op_mv _ (rfl : _ = AV.v (.int _ _))) ?_
        first
          | refine DL_c (op_ixS _ _ inferInstance rfl rfl _ rfl (by omega) (by first | assumption | decide | (simp only [isl_len, bsl_len, psl_len, mrows_len, nsl_len, ws_len, List.length_map, ul_len, psl_len, isl_len, nrows_len, prL_len]; omega) | (simp; done) | (simp; omega) | (simp [isl, bsl]; omega)) (by first | exact Nat.mul_one _ | rfl | omega)) ?_
          | refine DL_c (op_ixS _ _ inferInstance rfl rfl (Int.toNat _) (Int.toNat_of_nonneg (by omega)).symm (by omega) (by first | assumption | decide | (simp only [isl_len, bsl_len, psl_len, mrows_len, nsl_len, ws_len, List.length_map, ul_len, psl_len, isl_len, nrows_len, prL_len]; omega) | (simp; done) | (simp; omega) | (simp [isl, bsl]; omega)) (by first | exact Nat.mul_one _ | rfl | omega)) ?_
        refine DL_c (op_ldF _ inferInstance rfl (by exact hget) rfl) ?_
        refine DL_c (op_callH inferInstance (by repeat' (first | exact argsLv_nil | refine argsLv_cons ?_ ?_ | exact Lv.v | exact lvI (by omega) | exact Lv.sl | exact Lv.fp | exact Lv.nil | refine Lv.agg rfl ?_ | refine Lv.fn rfl ?_ rfl ?_ | exact lv_nil | refine lv_cons ?_ ?_ | exact Lv.z0)) (hVS _ hnv) rfl rfl) ?_
        refine DL_c (op_mv _ (rfl : _ = AV.tup _)) ?_
        first
          | refine DL_c (op_ext _ rfl (rfl : _ = some (AV.ptr _ _))) ?_
          | refine DL_c (op_ext _ rfl (rfl : _ = some (AV.fp _ _))) ?_
          | refine DL_c (op_ext _ rfl (rfl : _ = some (AV.v (.pointer _)))) ?_
        refine DL_c (op_ext _ rfl (rfl : _ = some (AV.v (.int _ _)))) ?_
        first
          | refine DL_c (op_as _ (rfl : _ = AV.ptr _ _)) ?_
          | refine DL_c (op_as _ (rfl : _ = AV.fp _ _)) ?_
          | refine DL_c (op_as _ (rfl : _ = AV.v (.pointer _))) ?_
        refine DL_c (op_as _ (rfl : _ = AV.v (.int _ _))) ?_
        refine DL_nil (hK53 _ ?_)
        clear hK53; try clear K53
        refine D_seq fun K54 hK54 => ?_
        refine D_seq fun K55 hK55 => ?_
        refine D_region ?_
        refine DL_c (op_mv _ (rfl : _ = AV.v (.int _ _))) ?_
        refine DL_c (op_mv _ (rfl : _ = AV.sl _ _)) ?_
        refine DL_c (op_mv _ (rfl : _ = AV.v (.int _ _))) ?_
        first
          | refine DL_c (op_ixS _ _ inferInstance rfl rfl _ rfl (by omega) (by first | assumption | decide | (simp only [isl_len, bsl_len, psl_len, mrows_len, nsl_len, ws_len, List.length_map, ul_len, psl_len, isl_len, nrows_len, prL_len]; omega) | (simp; done) | (simp; omega) | (simp [isl, bsl]; omega)) (by first | exact Nat.mul_one _ | rfl | omega)) ?_
          | refine DL_c (op_ixS _ _ inferInstance rfl rfl (Int.toNat _) (Int.toNat_of_nonneg (by omega)).symm (by omega) (by first | assumption | decide | (simp only [isl_len, bsl_len, psl_len, mrows_len, nsl_len, ws_len, List.length_map, ul_len, psl_len, isl_len, nrows_len, prL_len]; omega) | (simp; done) | (simp; omega) | (simp [isl, bsl]; omega)) (by first | exact Nat.mul_one _ | rfl | omega)) ?_
        refine DL_c (op_ldF _ inferInstance rfl (by exact hget) rfl) ?_
        refine DL_c (op_callH inferInstance (by repeat' (first | exact argsLv_nil | refine argsLv_cons ?_ ?_ | exact Lv.v | exact lvI (by omega) | exact Lv.sl | exact Lv.fp | exact Lv.nil | refine Lv.agg rfl ?_ | refine Lv.fn rfl ?_ rfl ?_ | exact lv_nil | refine lv_cons ?_ ?_ | exact Lv.z0)) (hRS _ hnr2) rfl rfl) ?_
        refine DL_c (op_neq (r := false) _ _ rfl rfl (bne_self_eq_false _)) ?_
        refine DL_c (op_mv _ (rfl : _ = AV.v (.bool _))) ?_
        refine DL_caseC (fun hg95 => ?_) (fun hg95 => ?_)
        · skip
          refine DL_cn rfl rfl (by decide) ?_
          refine DL_cn rfl rfl (by decide) ?_
          refine DL_cn rfl rfl (by decide) ?_
          refine DL_cn rfl rfl (by decide) ?_
          refine DL_cn rfl rfl (by decide) ?_
          refine DL_c (op_pick _ _ _ rfl (rfl : _ = AV.v (.bool _))) ?_
          refine DL_nil (hK55 _ ?_)
          clear hK55; try clear K55
          refine D_cT rfl rfl ?_
          refine D_seq fun K56 hK56 => ?_
          refine D_le (σ' := mkStI 178 [] [] [] []) (by
            refine Le.mkJ [] [] rfl ?_ ?_ trivial trivial ?_
            · exact trivial
            · exact trivial
            · kernel_rfl) ?_
          refine D_region ?_
          refine DL_c (op_as _ (rfl : _ = AV.v (.bool _))) ?_
          refine DL_nil (hK56 _ ?_)
          clear hK56; try clear K56
          refine D_ret ?_
          first | (cases hg95; done) | (cases hg112; done) | (cases hg118; done) | (cases hg129; done) | (cases hg164; done) | exact ret1 (.inr rfl) rfl (.tmp (rfl : _ = AV.v (.bool _))) (Le.out [] [] .v rfl rfl rfl trivial trivial)
        · skip
          first
            | refine DL_cy rfl rfl (op_mv _ (rfl : _ = AV.ptr _ _)) ?_
            | refine DL_cy rfl rfl (op_mv _ (rfl : _ = AV.fp _ _)) ?_
            | refine DL_cy rfl rfl (op_mv _ (rfl : _ = AV.v (.pointer _))) ?_
          first
            | refine DL_cy rfl rfl (op_eqP _ _ (by kernel_rfl) rfl rfl) ?_
            | refine DL_cy rfl rfl (op_eqN _ _ (by kernel_rfl) (.inr ⟨_, _, rfl⟩) rfl) ?_
            | refine DL_cy rfl rfl (op_eqN _ _ (by kernel_rfl) (.inl ⟨_, _, _, rfl, rfl⟩) rfl) ?_
          refine DL_cy rfl rfl (op_mv _ (rfl : _ = AV.v (.int _ _))) ?_
          refine DL_cy rfl rfl (op_neq (r := true) _ _ rfl rfl (by rw [bne_iff_ne]; exact he0)) ?_
          refine DL_cy rfl rfl (op_neB _ _ rfl rfl Try.underlying4 rfl) ?_
          refine DL_c (op_pick _ _ _ rfl (rfl : _ = AV.v (.bool _))) ?_
          refine DL_nil (hK55 _ ?_)
          clear hK55; try clear K55
          refine D_splitC rfl (fun hc101 => ?_) (fun hc101 => ?_)
          · skip
            exact absurd  hc101 (by simp)
          · skip
            refine D_skip (hK54 _ ?_)
            clear hK54; try clear K54
            refine D_seq fun K57 hK57 => ?_
            refine D_seq fun K58 hK58 => ?_
            refine D_le (σ' := mkStI 178 [(2, _), (17, _), (18, _), (19, _)] [] [] []) (by
              refine Le.mkJ [] [] rfl ?_ ?_ trivial trivial ?_
              · exact ⟨(iV rfl), (iS rfl), (iV rfl), (by first | exact iP rfl | exact iF rfl | exact iV rfl | exact iD rfl), trivial⟩
              · exact trivial
              · kernel_rfl) ?_
            refine D_region ?_
            first
              | refine DL_c (op_mv _ (rfl : _ = AV.ptr _ _)) ?_
              | refine DL_c (op_mv _ (rfl : _ = AV.fp _ _)) ?_
              | refine DL_c (op_mv _ (rfl : _ = AV.v (.pointer _))) ?_
            first
              | refine DL_c (op_eqP _ _ (by kernel_rfl) rfl rfl) ?_
              | refine DL_c (op_eqN _ _ (by kernel_rfl) (.inr ⟨_, _, rfl⟩) rfl) ?_
              | refine DL_c (op_eqN _ _ (by kernel_rfl) (.inl ⟨_, _, _, rfl, rfl⟩) rfl) ?_
            refine DL_nil (hK58 _ ?_)
            clear hK58; try clear K58
            refine D_splitC rfl (fun hc103 => ?_) (fun hc103 => ?_)
            · skip
              refine D_exit ?_
              refine id (hK52 _ ?_)
              clear hK52; try clear K52
              refine D_region ?_
              refine DL_c (op_mv _ (rfl : _ = AV.v (.int _ _))) ?_
              first
                | refine DL_c (op_add _ _ rfl rfl (i64w (by omega))) ?_
                | refine DL_c (op_add _ _ rfl rfl rfl) ?_
              refine DL_c (op_as _ (rfl : _ = AV.v (.int _ _))) ?_
              refine DL_nil ?_
              refine ⟨j + 1, ?_, ?_, ?_⟩
              · first | omega | trivial | exact ⟨by omega, by omega⟩
              · skip
                refine Le.mkJ [] [] rfl ?_ ?_ trivial trivial ?_
                · exact ⟨(iV rfl), (iS rfl), (lvI (by first | rfl | omega | (simp; done) | (simp; omega) | assumption)), trivial⟩
                · exact trivial
                · kernel_rfl
              · omega
            · skip
              exact absurd  hc103 (by simp)
      · skip
        refine D_region ?_
        refine DL_c (op_mv _ (rfl : _ = AV.sl _ _)) ?_
        refine DL_c (op_mv _ (rfl : _ = AV.v (.int _ _))) ?_
        first
          | refine DL_c (op_ixS _ _ inferInstance rfl rfl _ rfl (by omega) (by first | assumption | decide | (simp only [isl_len, bsl_len, psl_len, mrows_len, nsl_len, ws_len, List.length_map, ul_len, psl_len, isl_len, nrows_len, prL_len]; omega) | (simp; done) | (simp; omega) | (simp [isl, bsl]; omega)) (by first | exact Nat.mul_one _ | rfl | omega)) ?_
          | refine DL_c (op_ixS _ _ inferInstance rfl rfl (Int.toNat _) (Int.toNat_of_nonneg (by omega)).symm (by omega) (by first | assumption | decide | (simp only [isl_len, bsl_len, psl_len, mrows_len, nsl_len, ws_len, List.length_map, ul_len, psl_len, isl_len, nrows_len, prL_len]; omega) | (simp; done) | (simp; omega) | (simp [isl, bsl]; omega)) (by first | exact Nat.mul_one _ | rfl | omega)) ?_
        refine DL_c (op_ldF _ inferInstance rfl (by exact hget) rfl) ?_
        refine DL_c (op_callH inferInstance (by repeat' (first | exact argsLv_nil | refine argsLv_cons ?_ ?_ | exact Lv.v | exact lvI (by omega) | exact Lv.sl | exact Lv.fp | exact Lv.nil | refine Lv.agg rfl ?_ | refine Lv.fn rfl ?_ rfl ?_ | exact lv_nil | refine lv_cons ?_ ?_ | exact Lv.z0)) (hVS _ hnv) rfl rfl) ?_
        refine DL_c (op_mv _ (rfl : _ = AV.tup _)) ?_
        first
          | refine DL_c (op_ext _ rfl (rfl : _ = some (AV.ptr _ _))) ?_
          | refine DL_c (op_ext _ rfl (rfl : _ = some (AV.fp _ _))) ?_
          | refine DL_c (op_ext _ rfl (rfl : _ = some (AV.v (.pointer _)))) ?_
        refine DL_c (op_ext _ rfl (rfl : _ = some (AV.v (.int _ _)))) ?_
        refine DL_c (op_as _ (rfl : _ = AV.fp _ _)) ?_
        refine DL_c (op_as _ (rfl : _ = AV.v (.int _ _))) ?_
        refine DL_nil (hK53 _ ?_)
        clear hK53; try clear K53
        refine D_seq fun K59 hK59 => ?_
        refine D_seq fun K60 hK60 => ?_
        refine D_region ?_
        refine DL_c (op_mv _ (rfl : _ = AV.v (.int _ _))) ?_
        refine DL_c (op_mv _ (rfl : _ = AV.sl _ _)) ?_
        refine DL_c (op_mv _ (rfl : _ = AV.v (.int _ _))) ?_
        first
          | refine DL_c (op_ixS _ _ inferInstance rfl rfl _ rfl (by omega) (by first | assumption | decide | (simp only [isl_len, bsl_len, psl_len, mrows_len, nsl_len, ws_len, List.length_map, ul_len, psl_len, isl_len, nrows_len, prL_len]; omega) | (simp; done) | (simp; omega) | (simp [isl, bsl]; omega)) (by first | exact Nat.mul_one _ | rfl | omega)) ?_
          | refine DL_c (op_ixS _ _ inferInstance rfl rfl (Int.toNat _) (Int.toNat_of_nonneg (by omega)).symm (by omega) (by first | assumption | decide | (simp only [isl_len, bsl_len, psl_len, mrows_len, nsl_len, ws_len, List.length_map, ul_len, psl_len, isl_len, nrows_len, prL_len]; omega) | (simp; done) | (simp; omega) | (simp [isl, bsl]; omega)) (by first | exact Nat.mul_one _ | rfl | omega)) ?_
        refine DL_c (op_ldF _ inferInstance rfl (by exact hget) rfl) ?_
        refine DL_c (op_callH inferInstance (by repeat' (first | exact argsLv_nil | refine argsLv_cons ?_ ?_ | exact Lv.v | exact lvI (by omega) | exact Lv.sl | exact Lv.fp | exact Lv.nil | refine Lv.agg rfl ?_ | refine Lv.fn rfl ?_ rfl ?_ | exact lv_nil | refine lv_cons ?_ ?_ | exact Lv.z0)) (hRS _ hnr2) rfl rfl) ?_
        refine DL_c (op_neq (r := false) _ _ rfl rfl (bne_self_eq_false _)) ?_
        refine DL_c (op_mv _ (rfl : _ = AV.v (.bool _))) ?_
        refine DL_caseC (fun hg95 => ?_) (fun hg95 => ?_)
        · skip
          refine DL_cn rfl rfl (by decide) ?_
          refine DL_cn rfl rfl (by decide) ?_
          refine DL_cn rfl rfl (by decide) ?_
          refine DL_cn rfl rfl (by decide) ?_
          refine DL_cn rfl rfl (by decide) ?_
          refine DL_c (op_pick _ _ _ rfl (rfl : _ = AV.v (.bool _))) ?_
          refine DL_nil (hK60 _ ?_)
          clear hK60; try clear K60
          refine D_cT rfl rfl ?_
          refine D_seq fun K61 hK61 => ?_
          refine D_le (σ' := mkStI 178 [] [] [] []) (by
            refine Le.mkJ [] [] rfl ?_ ?_ trivial trivial ?_
            · exact trivial
            · exact trivial
            · kernel_rfl) ?_
          refine D_region ?_
          refine DL_c (op_as _ (rfl : _ = AV.v (.bool _))) ?_
          refine DL_nil (hK61 _ ?_)
          clear hK61; try clear K61
          refine D_ret ?_
          first | (cases hg95; done) | (cases hg112; done) | (cases hg118; done) | (cases hg129; done) | (cases hg164; done) | exact ret1 (.inr rfl) rfl (.tmp (rfl : _ = AV.v (.bool _))) (Le.out [] [] .v rfl rfl rfl trivial trivial)
        · skip
          refine DL_cy rfl rfl (op_mv _ (rfl : _ = AV.fp _ _)) ?_
          refine DL_cy rfl rfl (op_eqN _ _ (by kernel_rfl) (.inr ⟨_, _, rfl⟩) rfl) ?_
          refine DL_cy rfl rfl (op_mv _ (rfl : _ = AV.v (.int _ _))) ?_
          refine DL_cy rfl rfl (op_neq (r := false) _ _ rfl rfl rfl) ?_
          refine DL_cy rfl rfl (op_neB _ _ rfl rfl Try.underlying4 rfl) ?_
          refine DL_c (op_pick _ _ _ rfl (rfl : _ = AV.v (.bool _))) ?_
          refine DL_nil (hK60 _ ?_)
          clear hK60; try clear K60
          refine D_splitC rfl (fun hc101 => ?_) (fun hc101 => ?_)
          · skip
            exact absurd  hc101 (by simp)
          · skip
            refine D_skip (hK59 _ ?_)
            clear hK59; try clear K59
            refine D_seq fun K62 hK62 => ?_
            refine D_seq fun K63 hK63 => ?_
            refine D_le (σ' := mkStI 178 [(2, _), (17, _), (18, _), (19, _)] [] [] []) (by
              refine Le.mkJ [] [] rfl ?_ ?_ trivial trivial ?_
              · exact ⟨(iV rfl), (iS rfl), (iV rfl), (iF rfl), trivial⟩
              · exact trivial
              · kernel_rfl) ?_
            refine D_region ?_
            refine DL_c (op_mv _ (rfl : _ = AV.fp _ _)) ?_
            refine DL_c (op_eqN _ _ (by kernel_rfl) (.inr ⟨_, _, rfl⟩) rfl) ?_
            refine DL_nil (hK63 _ ?_)
            clear hK63; try clear K63
            refine D_cF rfl rfl ?_
            refine D_skip (hK62 _ ?_)
            clear hK62; try clear K62
            refine D_seq fun K64 hK64 => ?_
            refine D_seq fun K65 hK65 => ?_
            refine D_anyL 38 [104, 105, 106, 107, 108, 109, 110, 111, 112, 113, 114, 115, 116, 117, 118, 119, 120, 121, 122, 123, 124, 125, 126, 127, 128, 129, 130, 131, 132, 133, 134, 135, 136, 137, 138, 139, 140, 141] [] (by kernel_rfl) (by kernel_rfl) rfl (nodupO_iff rfl) (rfl : _ = [_, _, _, _, _, _, _, _, _, _, _, _, _, _, _, _, _, _, _, _, _, _, _, _, _, _, _, _, _, _, _, _, _, _, _, _, _, _]) (rfl : _ = []) ?_
            refine any_c (_, []) (fun τ => op_mv _ (rfl : _ = AV.fp _ _)) ?_
            refine any_n (rfl : _ = [_]) ?_
            refine any_c (_, []) (fun τ => (op_callH inferInstance (by repeat' (first | exact argsLv_nil | refine argsLv_cons ?_ ?_ | exact Lv.v | exact lvI (by omega) | exact Lv.sl | exact Lv.fp | exact Lv.nil | refine Lv.agg rfl ?_ | refine Lv.fn rfl ?_ rfl ?_ | exact lv_nil | refine lv_cons ?_ ?_ | exact Lv.z0)) (vlen_spec Q.length (parW Q) (ancW Q.length (edg Q Q.length 0))) rfl rfl)) ?_
            refine any_n (rfl : _ = [_, _]) ?_
            refine any_c (_, []) (fun τ => op_mv _ (rfl : _ = AV.sl _ _)) ?_
            refine any_n (rfl : _ = [_, _, _]) ?_
            refine any_c (_, []) (fun τ => op_mv _ (rfl : _ = AV.v (.int _ _))) ?_
            refine any_n (rfl : _ = [_, _, _, _]) ?_
            first
              | refine any_c (_, []) (fun τ => op_ixS _ _ inferInstance rfl rfl _ rfl (by omega) (by first | assumption | decide | (simp only [isl_len, bsl_len, psl_len, mrows_len, nsl_len, ws_len, List.length_map, ul_len, psl_len, isl_len, nrows_len, prL_len]; omega) | (simp; done) | (simp; omega) | (simp [isl, bsl]; omega)) (by first | exact Nat.mul_one _ | rfl | omega)) ?_
              | refine any_c (_, []) (fun τ => op_ixS _ _ inferInstance rfl rfl (Int.toNat _) (Int.toNat_of_nonneg (by omega)).symm (by omega) (by first | assumption | decide | (simp only [isl_len, bsl_len, psl_len, mrows_len, nsl_len, ws_len, List.length_map, ul_len, psl_len, isl_len, nrows_len, prL_len]; omega) | (simp; done) | (simp; omega) | (simp [isl, bsl]; omega)) (by first | exact Nat.mul_one _ | rfl | omega)) ?_
            refine any_n (rfl : _ = [_, _, _, _, _]) ?_
            refine any_c (_, []) (fun τ => op_ldF _ inferInstance rfl (by exact hget) rfl) ?_
            refine any_n (rfl : _ = [_, _, _, _, _, _]) ?_
            first
              | refine any_c (_, []) (fun τ => op_lenS _ inferInstance rfl) ?_
              | refine any_c (_, []) (fun τ => op_lenR _ inferInstance rfl rfl) ?_
              | refine any_c (_, []) (fun τ => op_lenN _ inferInstance rfl) ?_
              | refine any_c (_, []) (fun τ => op_lenB _ inferInstance rfl rfl) ?_
              | refine any_c (_, []) (fun τ => op_lenZ _ inferInstance rfl) ?_
            refine any_n (rfl : _ = [_, _, _, _, _, _, _]) ?_
            refine any_c (_, []) (fun τ => op_neq (r := false) _ _ rfl rfl (bne_self_eq_false _)) ?_
            refine any_n (rfl : _ = [_, _, _, _, _, _, _, _]) ?_
            refine any_c (_, []) (fun τ => op_mv _ (rfl : _ = AV.v (.bool _))) ?_
            refine any_caseC (fun hg112 => ?_) (fun hg112 => ?_)
            · skip
              refine any_n (rfl : _ = [_, _, _, _, _, _, _, _, _]) ?_
              refine any_cn rfl (fun τ => rfl) (by decide) ?_
              refine any_n (rfl : _ = [_, _, _, _, _, _, _, _, _, _]) ?_
              refine any_cn rfl (fun τ => rfl) (by decide) ?_
              refine any_n (rfl : _ = [_, _, _, _, _, _, _, _, _, _, _]) ?_
              refine any_cn rfl (fun τ => rfl) (by decide) ?_
              refine any_n (rfl : _ = [_, _, _, _, _, _, _, _, _, _, _, _]) ?_
              refine any_cn rfl (fun τ => rfl) (by decide) ?_
              refine any_n (rfl : _ = [_, _, _, _, _, _, _, _, _, _, _, _, _]) ?_
              refine any_c (_, []) (fun τ => op_pick _ _ _ rfl (rfl : _ = AV.v (.bool _))) ?_
              refine any_n (rfl : _ = [_, _, _, _, _, _, _, _, _, _, _, _, _, _]) ?_
              refine any_c (_, []) (fun τ => op_mv _ (rfl : _ = AV.v (.bool _))) ?_
              refine any_n (rfl : _ = [_, _, _, _, _, _, _, _, _, _, _, _, _, _, _]) ?_
              refine any_cn rfl (fun τ => rfl) (by decide) ?_
              refine any_n (rfl : _ = [_, _, _, _, _, _, _, _, _, _, _, _, _, _, _, _]) ?_
              refine any_cn rfl (fun τ => rfl) (by decide) ?_
              refine any_n (rfl : _ = [_, _, _, _, _, _, _, _, _, _, _, _, _, _, _, _, _]) ?_
              refine any_cn rfl (fun τ => rfl) (by decide) ?_
              refine any_n (rfl : _ = [_, _, _, _, _, _, _, _, _, _, _, _, _, _, _, _, _, _]) ?_
              refine any_cn rfl (fun τ => rfl) (by decide) ?_
              refine any_n (rfl : _ = [_, _, _, _, _, _, _, _, _, _, _, _, _, _, _, _, _, _, _]) ?_
              refine any_cn rfl (fun τ => rfl) (by decide) ?_
              refine any_n (rfl : _ = [_, _, _, _, _, _, _, _, _, _, _, _, _, _, _, _, _, _, _, _]) ?_
              refine any_cn rfl (fun τ => rfl) (by decide) ?_
              refine any_n (rfl : _ = [_, _, _, _, _, _, _, _, _, _, _, _, _, _, _, _, _, _, _, _, _]) ?_
              refine any_cn rfl (fun τ => rfl) (by decide) ?_
              refine any_n (rfl : _ = [_, _, _, _, _, _, _, _, _, _, _, _, _, _, _, _, _, _, _, _, _, _]) ?_
              refine any_cn rfl (fun τ => rfl) (by decide) ?_
              refine any_n (rfl : _ = [_, _, _, _, _, _, _, _, _, _, _, _, _, _, _, _, _, _, _, _, _, _, _]) ?_
              refine any_cn rfl (fun τ => rfl) (by decide) ?_
              refine any_n (rfl : _ = [_, _, _, _, _, _, _, _, _, _, _, _, _, _, _, _, _, _, _, _, _, _, _, _]) ?_
              refine any_c (_, []) (fun τ => op_pick _ _ _ rfl (rfl : _ = AV.v (.bool _))) ?_
              refine any_n (rfl : _ = [_, _, _, _, _, _, _, _, _, _, _, _, _, _, _, _, _, _, _, _, _, _, _, _, _]) ?_
              refine any_c (_, []) (fun τ => op_mv _ (rfl : _ = AV.v (.bool _))) ?_
              refine any_n (rfl : _ = [_, _, _, _, _, _, _, _, _, _, _, _, _, _, _, _, _, _, _, _, _, _, _, _, _, _]) ?_
              refine any_cn rfl (fun τ => rfl) (by decide) ?_
              refine any_n (rfl : _ = [_, _, _, _, _, _, _, _, _, _, _, _, _, _, _, _, _, _, _, _, _, _, _, _, _, _, _]) ?_
              refine any_cn rfl (fun τ => rfl) (by decide) ?_
              refine any_n (rfl : _ = [_, _, _, _, _, _, _, _, _, _, _, _, _, _, _, _, _, _, _, _, _, _, _, _, _, _, _, _]) ?_
              refine any_cn rfl (fun τ => rfl) (by decide) ?_
              refine any_n (rfl : _ = [_, _, _, _, _, _, _, _, _, _, _, _, _, _, _, _, _, _, _, _, _, _, _, _, _, _, _, _, _]) ?_
              refine any_cn rfl (fun τ => rfl) (by decide) ?_
              refine any_n (rfl : _ = [_, _, _, _, _, _, _, _, _, _, _, _, _, _, _, _, _, _, _, _, _, _, _, _, _, _, _, _, _, _]) ?_
              refine any_cn rfl (fun τ => rfl) (by decide) ?_
              refine any_n (rfl : _ = [_, _, _, _, _, _, _, _, _, _, _, _, _, _, _, _, _, _, _, _, _, _, _, _, _, _, _, _, _, _, _]) ?_
              refine any_cn rfl (fun τ => rfl) (by decide) ?_
              refine any_n (rfl : _ = [_, _, _, _, _, _, _, _, _, _, _, _, _, _, _, _, _, _, _, _, _, _, _, _, _, _, _, _, _, _, _, _]) ?_
              refine any_cn rfl (fun τ => rfl) (by decide) ?_
              refine any_n (rfl : _ = [_, _, _, _, _, _, _, _, _, _, _, _, _, _, _, _, _, _, _, _, _, _, _, _, _, _, _, _, _, _, _, _, _]) ?_
              refine any_cn rfl (fun τ => rfl) (by decide) ?_
              refine any_n (rfl : _ = [_, _, _, _, _, _, _, _, _, _, _, _, _, _, _, _, _, _, _, _, _, _, _, _, _, _, _, _, _, _, _, _, _, _]) ?_
              refine any_cn rfl (fun τ => rfl) (by decide) ?_
              refine any_n (rfl : _ = [_, _, _, _, _, _, _, _, _, _, _, _, _, _, _, _, _, _, _, _, _, _, _, _, _, _, _, _, _, _, _, _, _, _, _]) ?_
              refine any_cn rfl (fun τ => rfl) (by decide) ?_
              refine any_n (rfl : _ = [_, _, _, _, _, _, _, _, _, _, _, _, _, _, _, _, _, _, _, _, _, _, _, _, _, _, _, _, _, _, _, _, _, _, _, _]) ?_
              refine any_cn rfl (fun τ => rfl) (by decide) ?_
              refine any_n (rfl : _ = [_, _, _, _, _, _, _, _, _, _, _, _, _, _, _, _, _, _, _, _, _, _, _, _, _, _, _, _, _, _, _, _, _, _, _, _, _]) ?_
              refine any_c (_, []) (fun τ => op_pick _ _ _ rfl (rfl : _ = AV.v (.bool _))) ?_
              refine any_n (rfl : _ = [_, _, _, _, _, _, _, _, _, _, _, _, _, _, _, _, _, _, _, _, _, _, _, _, _, _, _, _, _, _, _, _, _, _, _, _, _, _]) ?_
              refine any_end ⟨rfl, ?_⟩
              refine DL_nil (hK65 _ ?_)
              clear hK65; try clear K65
              refine D_cT rfl rfl ?_
              refine D_seq fun K66 hK66 => ?_
              refine D_le (σ' := mkStI 178 [] [] [] []) (by
                refine Le.mkJ [] [] rfl ?_ ?_ trivial trivial ?_
                · exact trivial
                · exact trivial
                · kernel_rfl) ?_
              refine D_region ?_
              refine DL_c (op_as _ (rfl : _ = AV.v (.bool _))) ?_
              refine DL_nil (hK66 _ ?_)
              clear hK66; try clear K66
              refine D_ret ?_
              first | (cases hg95; done) | (cases hg112; done) | (cases hg118; done) | (cases hg129; done) | (cases hg164; done) | exact ret1 (.inr rfl) rfl (.tmp (rfl : _ = AV.v (.bool _))) (Le.out [] [] .v rfl rfl rfl trivial trivial)
            · skip
              refine any_n (rfl : _ = [_, _, _, _, _, _, _, _, _]) ?_
              refine any_cy (_, []) rfl (fun τ => rfl) (fun τ => op_mv _ (rfl : _ = AV.fp _ _)) ?_
              refine any_n (rfl : _ = [_, _, _, _, _, _, _, _, _, _]) ?_
              refine any_cy (_, []) rfl (fun τ => rfl) (fun τ => (op_callH inferInstance (by repeat' (first | exact argsLv_nil | refine argsLv_cons ?_ ?_ | exact Lv.v | exact lvI (by omega) | exact Lv.sl | exact Lv.fp | exact Lv.nil | refine Lv.agg rfl ?_ | refine Lv.fn rfl ?_ rfl ?_ | exact lv_nil | refine lv_cons ?_ ?_ | exact Lv.z0)) (parm_no hG) rfl rfl)) ?_
              refine any_n (rfl : _ = [_, _, _, _, _, _, _, _, _, _, _]) ?_
              refine any_cy (_, []) rfl (fun τ => rfl) (fun τ => op_lenS _ inferInstance rfl) ?_
              refine any_n (rfl : _ = [_, _, _, _, _, _, _, _, _, _, _, _]) ?_
              refine any_cy (_, []) rfl (fun τ => rfl) (fun τ => op_neq (r := false) _ _ rfl rfl rfl) ?_
              refine any_n (rfl : _ = [_, _, _, _, _, _, _, _, _, _, _, _, _]) ?_
              refine any_c (_, []) (fun τ => op_pick _ _ _ rfl (rfl : _ = AV.v (.bool _))) ?_
              refine any_n (rfl : _ = [_, _, _, _, _, _, _, _, _, _, _, _, _, _]) ?_
              refine any_c (_, []) (fun τ => op_mv _ (rfl : _ = AV.v (.bool _))) ?_
              refine any_caseC (fun hg118 => ?_) (fun hg118 => ?_)
              · skip
                refine any_n (rfl : _ = [_, _, _, _, _, _, _, _, _, _, _, _, _, _, _]) ?_
                refine any_cn rfl (fun τ => rfl) (by decide) ?_
                refine any_n (rfl : _ = [_, _, _, _, _, _, _, _, _, _, _, _, _, _, _, _]) ?_
                refine any_cn rfl (fun τ => rfl) (by decide) ?_
                refine any_n (rfl : _ = [_, _, _, _, _, _, _, _, _, _, _, _, _, _, _, _, _]) ?_
                refine any_cn rfl (fun τ => rfl) (by decide) ?_
                refine any_n (rfl : _ = [_, _, _, _, _, _, _, _, _, _, _, _, _, _, _, _, _, _]) ?_
                refine any_cn rfl (fun τ => rfl) (by decide) ?_
                refine any_n (rfl : _ = [_, _, _, _, _, _, _, _, _, _, _, _, _, _, _, _, _, _, _]) ?_
                refine any_cn rfl (fun τ => rfl) (by decide) ?_
                refine any_n (rfl : _ = [_, _, _, _, _, _, _, _, _, _, _, _, _, _, _, _, _, _, _, _]) ?_
                refine any_cn rfl (fun τ => rfl) (by decide) ?_
                refine any_n (rfl : _ = [_, _, _, _, _, _, _, _, _, _, _, _, _, _, _, _, _, _, _, _, _]) ?_
                refine any_cn rfl (fun τ => rfl) (by decide) ?_
                refine any_n (rfl : _ = [_, _, _, _, _, _, _, _, _, _, _, _, _, _, _, _, _, _, _, _, _, _]) ?_
                refine any_cn rfl (fun τ => rfl) (by decide) ?_
                refine any_n (rfl : _ = [_, _, _, _, _, _, _, _, _, _, _, _, _, _, _, _, _, _, _, _, _, _, _]) ?_
                refine any_cn rfl (fun τ => rfl) (by decide) ?_
                refine any_n (rfl : _ = [_, _, _, _, _, _, _, _, _, _, _, _, _, _, _, _, _, _, _, _, _, _, _, _]) ?_
                refine any_c (_, []) (fun τ => op_pick _ _ _ rfl (rfl : _ = AV.v (.bool _))) ?_
                refine any_n (rfl : _ = [_, _, _, _, _, _, _, _, _, _, _, _, _, _, _, _, _, _, _, _, _, _, _, _, _]) ?_
                refine any_c (_, []) (fun τ => op_mv _ (rfl : _ = AV.v (.bool _))) ?_
                refine any_n (rfl : _ = [_, _, _, _, _, _, _, _, _, _, _, _, _, _, _, _, _, _, _, _, _, _, _, _, _, _]) ?_
                refine any_cn rfl (fun τ => rfl) (by decide) ?_
                refine any_n (rfl : _ = [_, _, _, _, _, _, _, _, _, _, _, _, _, _, _, _, _, _, _, _, _, _, _, _, _, _, _]) ?_
                refine any_cn rfl (fun τ => rfl) (by decide) ?_
                refine any_n (rfl : _ = [_, _, _, _, _, _, _, _, _, _, _, _, _, _, _, _, _, _, _, _, _, _, _, _, _, _, _, _]) ?_
                refine any_cn rfl (fun τ => rfl) (by decide) ?_
                refine any_n (rfl : _ = [_, _, _, _, _, _, _, _, _, _, _, _, _, _, _, _, _, _, _, _, _, _, _, _, _, _, _, _, _]) ?_
                refine any_cn rfl (fun τ => rfl) (by decide) ?_
                refine any_n (rfl : _ = [_, _, _, _, _, _, _, _, _, _, _, _, _, _, _, _, _, _, _, _, _, _, _, _, _, _, _, _, _, _]) ?_
                refine any_cn rfl (fun τ => rfl) (by decide) ?_
                refine any_n (rfl : _ = [_, _, _, _, _, _, _, _, _, _, _, _, _, _, _, _, _, _, _, _, _, _, _, _, _, _, _, _, _, _, _]) ?_
                refine any_cn rfl (fun τ => rfl) (by decide) ?_
                refine any_n (rfl : _ = [_, _, _, _, _, _, _, _, _, _, _, _, _, _, _, _, _, _, _, _, _, _, _, _, _, _, _, _, _, _, _, _]) ?_
                refine any_cn rfl (fun τ => rfl) (by decide) ?_
                refine any_n (rfl : _ = [_, _, _, _, _, _, _, _, _, _, _, _, _, _, _, _, _, _, _, _, _, _, _, _, _, _, _, _, _, _, _, _, _]) ?_
                refine any_cn rfl (fun τ => rfl) (by decide) ?_
                refine any_n (rfl : _ = [_, _, _, _, _, _, _, _, _, _, _, _, _, _, _, _, _, _, _, _, _, _, _, _, _, _, _, _, _, _, _, _, _, _]) ?_
                refine any_cn rfl (fun τ => rfl) (by decide) ?_
                refine any_n (rfl : _ = [_, _, _, _, _, _, _, _, _, _, _, _, _, _, _, _, _, _, _, _, _, _, _, _, _, _, _, _, _, _, _, _, _, _, _]) ?_
                refine any_cn rfl (fun τ => rfl) (by decide) ?_
                refine any_n (rfl : _ = [_, _, _, _, _, _, _, _, _, _, _, _, _, _, _, _, _, _, _, _, _, _, _, _, _, _, _, _, _, _, _, _, _, _, _, _]) ?_
                refine any_cn rfl (fun τ => rfl) (by decide) ?_
                refine any_n (rfl : _ = [_, _, _, _, _, _, _, _, _, _, _, _, _, _, _, _, _, _, _, _, _, _, _, _, _, _, _, _, _, _, _, _, _, _, _, _, _]) ?_
                refine any_c (_, []) (fun τ => op_pick _ _ _ rfl (rfl : _ = AV.v (.bool _))) ?_
                refine any_n (rfl : _ = [_, _, _, _, _, _, _, _, _, _, _, _, _, _, _, _, _, _, _, _, _, _, _, _, _, _, _, _, _, _, _, _, _, _, _, _, _, _]) ?_
                refine any_end ⟨rfl, ?_⟩
                refine DL_nil (hK65 _ ?_)
                clear hK65; try clear K65
                refine D_cT rfl rfl ?_
                refine D_seq fun K67 hK67 => ?_
                refine D_le (σ' := mkStI 178 [] [] [] []) (by
                  refine Le.mkJ [] [] rfl ?_ ?_ trivial trivial ?_
                  · exact trivial
                  · exact trivial
                  · kernel_rfl) ?_
                refine D_region ?_
                refine DL_c (op_as _ (rfl : _ = AV.v (.bool _))) ?_
                refine DL_nil (hK67 _ ?_)
                clear hK67; try clear K67
                refine D_ret ?_
                first | (cases hg95; done) | (cases hg112; done) | (cases hg118; done) | (cases hg129; done) | (cases hg164; done) | exact ret1 (.inr rfl) rfl (.tmp (rfl : _ = AV.v (.bool _))) (Le.out [] [] .v rfl rfl rfl trivial trivial)
              · skip
                refine any_n (rfl : _ = [_, _, _, _, _, _, _, _, _, _, _, _, _, _, _]) ?_
                refine any_cy (_, []) rfl (fun τ => rfl) (fun τ => op_mv _ (rfl : _ = AV.fp _ _)) ?_
                refine any_n (rfl : _ = [_, _, _, _, _, _, _, _, _, _, _, _, _, _, _, _]) ?_
                refine any_cy (_, []) rfl (fun τ => rfl) (fun τ => op_mv _ (rfl : _ = AV.sl _ _)) ?_
                refine any_n (rfl : _ = [_, _, _, _, _, _, _, _, _, _, _, _, _, _, _, _, _]) ?_
                refine any_cy (_, []) rfl (fun τ => rfl) (fun τ => op_mv _ (rfl : _ = AV.v (.int _ _))) ?_
                refine any_n (rfl : _ = [_, _, _, _, _, _, _, _, _, _, _, _, _, _, _, _, _, _]) ?_
                first
                  | refine any_cy (_, []) rfl (fun τ => rfl) (fun τ => op_ixS _ _ inferInstance rfl rfl _ rfl (by omega) (by first | assumption | decide | (simp only [isl_len, bsl_len, psl_len, mrows_len, nsl_len, ws_len, List.length_map, ul_len, psl_len, isl_len, nrows_len, prL_len]; omega) | (simp; done) | (simp; omega) | (simp [isl, bsl]; omega)) (by first | exact Nat.mul_one _ | rfl | omega)) ?_
                  | refine any_cy (_, []) rfl (fun τ => rfl) (fun τ => op_ixS _ _ inferInstance rfl rfl (Int.toNat _) (Int.toNat_of_nonneg (by omega)).symm (by omega) (by first | assumption | decide | (simp only [isl_len, bsl_len, psl_len, mrows_len, nsl_len, ws_len, List.length_map, ul_len, psl_len, isl_len, nrows_len, prL_len]; omega) | (simp; done) | (simp; omega) | (simp [isl, bsl]; omega)) (by first | exact Nat.mul_one _ | rfl | omega)) ?_
                refine any_n (rfl : _ = [_, _, _, _, _, _, _, _, _, _, _, _, _, _, _, _, _, _, _]) ?_
                refine any_cy (_, []) rfl (fun τ => rfl) (fun τ => op_ldF _ inferInstance rfl (by exact hget) rfl) ?_
                refine any_n (rfl : _ = [_, _, _, _, _, _, _, _, _, _, _, _, _, _, _, _, _, _, _, _]) ?_
                first
                  | refine any_cy (_, []) rfl (fun τ => rfl) (fun τ => op_lenS _ inferInstance rfl) ?_
                  | refine any_cy (_, []) rfl (fun τ => rfl) (fun τ => op_lenR _ inferInstance rfl rfl) ?_
                  | refine any_cy (_, []) rfl (fun τ => rfl) (fun τ => op_lenN _ inferInstance rfl) ?_
                  | refine any_cy (_, []) rfl (fun τ => rfl) (fun τ => op_lenB _ inferInstance rfl rfl) ?_
                  | refine any_cy (_, []) rfl (fun τ => rfl) (fun τ => op_lenZ _ inferInstance rfl) ?_
                refine any_n (rfl : _ = [_, _, _, _, _, _, _, _, _, _, _, _, _, _, _, _, _, _, _, _, _]) ?_
                refine any_cy (_, []) rfl (fun τ => rfl) (fun τ => (op_callH inferInstance (by repeat' (first | exact argsLv_nil | refine argsLv_cons ?_ ?_ | exact Lv.v | exact lvI (by omega) | exact Lv.sl | exact Lv.fp | exact Lv.nil | refine Lv.agg rfl ?_ | refine Lv.fn rfl ?_ rfl ?_ | exact lv_nil | refine lv_cons ?_ ?_ | exact Lv.z0)) (ancm_no hG) rfl rfl)) ?_
                refine any_n (rfl : _ = [_, _, _, _, _, _, _, _, _, _, _, _, _, _, _, _, _, _, _, _, _, _]) ?_
                refine any_cy (_, []) rfl (fun τ => rfl) (fun τ => op_lenS _ inferInstance rfl) ?_
                refine any_n (rfl : _ = [_, _, _, _, _, _, _, _, _, _, _, _, _, _, _, _, _, _, _, _, _, _, _]) ?_
                refine any_cy (_, []) rfl (fun τ => rfl) (fun τ => op_neq (r := false) _ _ rfl rfl rfl) ?_
                refine any_n (rfl : _ = [_, _, _, _, _, _, _, _, _, _, _, _, _, _, _, _, _, _, _, _, _, _, _, _]) ?_
                refine any_c (_, []) (fun τ => op_pick _ _ _ rfl (rfl : _ = AV.v (.bool _))) ?_
                refine any_n (rfl : _ = [_, _, _, _, _, _, _, _, _, _, _, _, _, _, _, _, _, _, _, _, _, _, _, _, _]) ?_
                refine any_c (_, []) (fun τ => op_mv _ (rfl : _ = AV.v (.bool _))) ?_
                refine any_caseC (fun hg129 => ?_) (fun hg129 => ?_)
                · skip
                  refine any_n (rfl : _ = [_, _, _, _, _, _, _, _, _, _, _, _, _, _, _, _, _, _, _, _, _, _, _, _, _, _]) ?_
                  refine any_cn rfl (fun τ => rfl) (by decide) ?_
                  refine any_n (rfl : _ = [_, _, _, _, _, _, _, _, _, _, _, _, _, _, _, _, _, _, _, _, _, _, _, _, _, _, _]) ?_
                  refine any_cn rfl (fun τ => rfl) (by decide) ?_
                  refine any_n (rfl : _ = [_, _, _, _, _, _, _, _, _, _, _, _, _, _, _, _, _, _, _, _, _, _, _, _, _, _, _, _]) ?_
                  refine any_cn rfl (fun τ => rfl) (by decide) ?_
                  refine any_n (rfl : _ = [_, _, _, _, _, _, _, _, _, _, _, _, _, _, _, _, _, _, _, _, _, _, _, _, _, _, _, _, _]) ?_
                  refine any_cn rfl (fun τ => rfl) (by decide) ?_
                  refine any_n (rfl : _ = [_, _, _, _, _, _, _, _, _, _, _, _, _, _, _, _, _, _, _, _, _, _, _, _, _, _, _, _, _, _]) ?_
                  refine any_cn rfl (fun τ => rfl) (by decide) ?_
                  refine any_n (rfl : _ = [_, _, _, _, _, _, _, _, _, _, _, _, _, _, _, _, _, _, _, _, _, _, _, _, _, _, _, _, _, _, _]) ?_
                  refine any_cn rfl (fun τ => rfl) (by decide) ?_
                  refine any_n (rfl : _ = [_, _, _, _, _, _, _, _, _, _, _, _, _, _, _, _, _, _, _, _, _, _, _, _, _, _, _, _, _, _, _, _]) ?_
                  refine any_cn rfl (fun τ => rfl) (by decide) ?_
                  refine any_n (rfl : _ = [_, _, _, _, _, _, _, _, _, _, _, _, _, _, _, _, _, _, _, _, _, _, _, _, _, _, _, _, _, _, _, _, _]) ?_
                  refine any_cn rfl (fun τ => rfl) (by decide) ?_
                  refine any_n (rfl : _ = [_, _, _, _, _, _, _, _, _, _, _, _, _, _, _, _, _, _, _, _, _, _, _, _, _, _, _, _, _, _, _, _, _, _]) ?_
                  refine any_cn rfl (fun τ => rfl) (by decide) ?_
                  refine any_n (rfl : _ = [_, _, _, _, _, _, _, _, _, _, _, _, _, _, _, _, _, _, _, _, _, _, _, _, _, _, _, _, _, _, _, _, _, _, _]) ?_
                  refine any_cn rfl (fun τ => rfl) (by decide) ?_
                  refine any_n (rfl : _ = [_, _, _, _, _, _, _, _, _, _, _, _, _, _, _, _, _, _, _, _, _, _, _, _, _, _, _, _, _, _, _, _, _, _, _, _]) ?_
                  refine any_cn rfl (fun τ => rfl) (by decide) ?_
                  refine any_n (rfl : _ = [_, _, _, _, _, _, _, _, _, _, _, _, _, _, _, _, _, _, _, _, _, _, _, _, _, _, _, _, _, _, _, _, _, _, _, _, _]) ?_
                  refine any_c (_, []) (fun τ => op_pick _ _ _ rfl (rfl : _ = AV.v (.bool _))) ?_
                  refine any_n (rfl : _ = [_, _, _, _, _, _, _, _, _, _, _, _, _, _, _, _, _, _, _, _, _, _, _, _, _, _, _, _, _, _, _, _, _, _, _, _, _, _]) ?_
                  refine any_end ⟨rfl, ?_⟩
                  refine DL_nil (hK65 _ ?_)
                  clear hK65; try clear K65
                  refine D_cT rfl rfl ?_
                  refine D_seq fun K68 hK68 => ?_
                  refine D_le (σ' := mkStI 178 [] [] [] []) (by
                    refine Le.mkJ [] [] rfl ?_ ?_ trivial trivial ?_
                    · exact trivial
                    · exact trivial
                    · kernel_rfl) ?_
                  refine D_region ?_
                  refine DL_c (op_as _ (rfl : _ = AV.v (.bool _))) ?_
                  refine DL_nil (hK68 _ ?_)
                  clear hK68; try clear K68
                  refine D_ret ?_
                  first | (cases hg95; done) | (cases hg112; done) | (cases hg118; done) | (cases hg129; done) | (cases hg164; done) | exact ret1 (.inr rfl) rfl (.tmp (rfl : _ = AV.v (.bool _))) (Le.out [] [] .v rfl rfl rfl trivial trivial)
                · skip
                  refine any_n (rfl : _ = [_, _, _, _, _, _, _, _, _, _, _, _, _, _, _, _, _, _, _, _, _, _, _, _, _, _]) ?_
                  refine any_cy (_, []) rfl (fun τ => rfl) (fun τ => op_mv _ (rfl : _ = AV.fp _ _)) ?_
                  refine any_n (rfl : _ = [_, _, _, _, _, _, _, _, _, _, _, _, _, _, _, _, _, _, _, _, _, _, _, _, _, _, _]) ?_
                  refine any_cy (_, []) rfl (fun τ => rfl) (fun τ => op_mv _ (rfl : _ = AV.v (.int _ _))) ?_
                  refine any_n (rfl : _ = [_, _, _, _, _, _, _, _, _, _, _, _, _, _, _, _, _, _, _, _, _, _, _, _, _, _, _, _]) ?_
                  refine any_cy (_, []) rfl (fun τ => rfl) (fun τ => (op_callH inferInstance (by repeat' (first | exact argsLv_nil | refine argsLv_cons ?_ ?_ | exact Lv.v | exact lvI (by omega) | exact Lv.sl | exact Lv.fp | exact Lv.nil | refine Lv.agg rfl ?_ | refine Lv.fn rfl ?_ rfl ?_ | exact lv_nil | refine lv_cons ?_ ?_ | exact Lv.z0)) (ancm_spec hG v) rfl rfl)) ?_
                  refine any_n (rfl : _ = [_, _, _, _, _, _, _, _, _, _, _, _, _, _, _, _, _, _, _, _, _, _, _, _, _, _, _, _, _]) ?_
                  refine any_cy (_, []) rfl (fun τ => rfl) (fun τ => op_mv _ (rfl : _ = AV.sl _ _)) ?_
                  refine any_n (rfl : _ = [_, _, _, _, _, _, _, _, _, _, _, _, _, _, _, _, _, _, _, _, _, _, _, _, _, _, _, _, _, _]) ?_
                  refine any_cy (_, []) rfl (fun τ => rfl) (fun τ => op_mv _ (rfl : _ = AV.v (.int _ _))) ?_
                  refine any_n (rfl : _ = [_, _, _, _, _, _, _, _, _, _, _, _, _, _, _, _, _, _, _, _, _, _, _, _, _, _, _, _, _, _, _]) ?_
                  first
                    | refine any_cy (_, []) rfl (fun τ => rfl) (fun τ => op_ixS _ _ inferInstance rfl rfl _ rfl (by omega) (by first | assumption | decide | (simp only [isl_len, bsl_len, psl_len, mrows_len, nsl_len, ws_len, List.length_map, ul_len, psl_len, isl_len, nrows_len, prL_len]; omega) | (simp; done) | (simp; omega) | (simp [isl, bsl]; omega)) (by first | exact Nat.mul_one _ | rfl | omega)) ?_
                    | refine any_cy (_, []) rfl (fun τ => rfl) (fun τ => op_ixS _ _ inferInstance rfl rfl (Int.toNat _) (Int.toNat_of_nonneg (by omega)).symm (by omega) (by first | assumption | decide | (simp only [isl_len, bsl_len, psl_len, mrows_len, nsl_len, ws_len, List.length_map, ul_len, psl_len, isl_len, nrows_len, prL_len]; omega) | (simp; done) | (simp; omega) | (simp [isl, bsl]; omega)) (by first | exact Nat.mul_one _ | rfl | omega)) ?_
                  refine any_n (rfl : _ = [_, _, _, _, _, _, _, _, _, _, _, _, _, _, _, _, _, _, _, _, _, _, _, _, _, _, _, _, _, _, _, _]) ?_
                  refine any_cy (_, []) rfl (fun τ => rfl) (fun τ => op_ldF _ inferInstance rfl (by exact hget) rfl) ?_
                  refine any_n (rfl : _ = [_, _, _, _, _, _, _, _, _, _, _, _, _, _, _, _, _, _, _, _, _, _, _, _, _, _, _, _, _, _, _, _, _]) ?_
                  refine any_cy (_, []) rfl (fun τ => rfl) (fun τ => op_mv _ (rfl : _ = AV.v (.int _ _))) ?_
                  refine any_n (rfl : _ = [_, _, _, _, _, _, _, _, _, _, _, _, _, _, _, _, _, _, _, _, _, _, _, _, _, _, _, _, _, _, _, _, _, _]) ?_
                  refine any_cy (_, []) rfl (fun τ => rfl) (fun τ => (op_callH inferInstance (by repeat' (first | exact argsLv_nil | refine argsLv_cons ?_ ?_ | exact Lv.v | exact lvI (by omega) | exact Lv.sl | exact Lv.fp | exact Lv.nil | refine Lv.agg rfl ?_ | refine Lv.fn rfl ?_ rfl ?_ | exact lv_nil | refine lv_cons ?_ ?_ | exact Lv.z0)) (ranc_wat hG v) rfl rfl)) ?_
                  refine any_n (rfl : _ = [_, _, _, _, _, _, _, _, _, _, _, _, _, _, _, _, _, _, _, _, _, _, _, _, _, _, _, _, _, _, _, _, _, _, _]) ?_
                  refine any_cy (_, []) rfl (fun τ => rfl) (fun τ => (op_callH inferInstance (by repeat' (first | exact argsLv_nil | refine argsLv_cons ?_ ?_ | exact Lv.v | exact lvI (by omega) | exact Lv.sl | exact Lv.fp | exact Lv.nil | refine Lv.agg rfl ?_ | refine Lv.fn rfl ?_ rfl ?_ | exact lv_nil | refine lv_cons ?_ ?_ | exact Lv.z0)) (sameNN _ (by have := wat_len (n := Q.length) (ancW Q.length (edg Q Q.length 0)) v; omega)) rfl rfl)) ?_
                  refine any_n (rfl : _ = [_, _, _, _, _, _, _, _, _, _, _, _, _, _, _, _, _, _, _, _, _, _, _, _, _, _, _, _, _, _, _, _, _, _, _, _]) ?_
                  refine any_cy (_, []) rfl (fun τ => rfl) (fun τ => op_not _ rfl rfl) ?_
                  refine any_n (rfl : _ = [_, _, _, _, _, _, _, _, _, _, _, _, _, _, _, _, _, _, _, _, _, _, _, _, _, _, _, _, _, _, _, _, _, _, _, _, _]) ?_
                  refine any_c (_, []) (fun τ => op_pick _ _ _ rfl (rfl : _ = AV.v (.bool _))) ?_
                  refine any_n (rfl : _ = [_, _, _, _, _, _, _, _, _, _, _, _, _, _, _, _, _, _, _, _, _, _, _, _, _, _, _, _, _, _, _, _, _, _, _, _, _, _]) ?_
                  refine any_end ⟨rfl, ?_⟩
                  refine DL_nil (hK65 _ ?_)
                  clear hK65; try clear K65
                  refine D_splitC rfl (fun hc141 => ?_) (fun hc141 => ?_)
                  · skip
                    exact absurd  hc141 (by simp)
                  · skip
                    refine D_skip (hK64 _ ?_)
                    clear hK64; try clear K64
                    refine D_seq fun K69 hK69 => ?_
                    refine D_le (σ' := mkStI 178 [(2, _), (17, _), (18, _), (19, _)] [] [] []) (by
                      refine Le.mkJ [] [] rfl ?_ ?_ trivial trivial ?_
                      · exact ⟨(iV rfl), (iS rfl), (iV rfl), (iF rfl), trivial⟩
                      · exact trivial
                      · kernel_rfl) ?_
                    refine D_region ?_
                    refine DL_c (op_as _ (rfl : _ = AV.v (.int _ _))) ?_
                    refine DL_nil (hK69 _ ?_)
                    clear hK69; try clear K69
                    refine D_block ?_
                    refine D_loopL (α := Nat) (fun u => u ≤ Q.length) 178 [(2, _), (17, _), (18, _), (19, _)] [] (fun u => [(21, .v (.int .i64 (u : Int)))]) (fun u => []) [] [] (fun u => Q.length - u) 0 ?_ (by
                      refine Le.mkJ [] [] rfl ?_ ?_ trivial trivial ?_
                      · exact ⟨(iV rfl), (iS rfl), (iV rfl), (iF rfl), (lvI (by first | rfl | omega | (simp; done) | (simp; omega) | assumption)), trivial⟩
                      · exact trivial
                      · kernel_rfl) ?_
                    · first | omega | trivial | exact ⟨by omega, by omega⟩
                    intro u hu
                    refine D_seq fun K70 hK70 => ?_
                    refine D_seq fun K71 hK71 => ?_
                    refine D_region ?_
                    refine DL_c (op_mv _ (rfl : _ = AV.v (.int _ _))) ?_
                    refine DL_c (op_mv _ (rfl : _ = AV.sl _ _)) ?_
                    refine DL_c (op_mv _ (rfl : _ = AV.v (.int _ _))) ?_
                    first
                      | refine DL_c (op_ixS _ _ inferInstance rfl rfl _ rfl (by omega) (by first | assumption | decide | (simp only [isl_len, bsl_len, psl_len, mrows_len, nsl_len, ws_len, List.length_map, ul_len, psl_len, isl_len, nrows_len, prL_len]; omega) | (simp; done) | (simp; omega) | (simp [isl, bsl]; omega)) (by first | exact Nat.mul_one _ | rfl | omega)) ?_
                      | refine DL_c (op_ixS _ _ inferInstance rfl rfl (Int.toNat _) (Int.toNat_of_nonneg (by omega)).symm (by omega) (by first | assumption | decide | (simp only [isl_len, bsl_len, psl_len, mrows_len, nsl_len, ws_len, List.length_map, ul_len, psl_len, isl_len, nrows_len, prL_len]; omega) | (simp; done) | (simp; omega) | (simp [isl, bsl]; omega)) (by first | exact Nat.mul_one _ | rfl | omega)) ?_
                    refine DL_c (op_ldF _ inferInstance rfl (by exact hget) rfl) ?_
                    first
                      | refine DL_c (op_lenS _ inferInstance rfl) ?_
                      | refine DL_c (op_lenR _ inferInstance rfl rfl) ?_
                      | refine DL_c (op_lenN _ inferInstance rfl) ?_
                      | refine DL_c (op_lenB _ inferInstance rfl rfl) ?_
                      | refine DL_c (op_lenZ _ inferInstance rfl) ?_
                    first
                      | refine DL_c (op_lss _ _ rfl rfl (by assumption)) ?_
                      | refine DL_c (op_lss _ _ rfl rfl rfl) ?_
                    refine DL_nil (hK71 _ ?_)
                    clear hK71; try clear K71
                    refine D_splitC rfl (fun hc148 => ?_) (fun hc148 => ?_)
                    · skip
                      have hul := upE_len Q u
                      have hnq : (nrows Q).length = Q.length := nrows_len Q
                      have hmu := hG.m u
                      refine D_skip (hK70 _ ?_)
                      clear hK70; try clear K70
                      refine D_seq fun K72 hK72 => ?_
                      refine D_block ?_
                      refine D_seq fun K73 hK73 => ?_
                      refine D_le (σ' := mkStI 178 [(2, _), (17, _), (18, _), (19, _), (21, _)] [] [] []) (by
                        refine Le.mkJ [] [] rfl ?_ ?_ trivial trivial ?_
                        · exact ⟨(iV rfl), (iS rfl), (iV rfl), (iF rfl), (iV rfl), trivial⟩
                        · exact trivial
                        · kernel_rfl) ?_
                      refine D_anyL 26 [151, 152, 153, 154, 155, 156, 157, 158, 159, 160, 161, 162, 163, 164, 165, 166, 167, 168, 169, 170, 171, 172, 173, 174, 175, 176] [] (by kernel_rfl) (by kernel_rfl) rfl (nodupO_iff rfl) (rfl : _ = [_, _, _, _, _, _, _, _, _, _, _, _, _, _, _, _, _, _, _, _, _, _, _, _, _, _]) (rfl : _ = []) ?_
                      refine any_c (_, []) (fun τ => op_mv _ (rfl : _ = AV.fp _ _)) ?_
                      refine any_n (rfl : _ = [_]) ?_
                      refine any_c (_, []) (fun τ => op_mv _ (rfl : _ = AV.v (.int _ _))) ?_
                      refine any_n (rfl : _ = [_, _]) ?_
                      refine any_c (_, []) (fun τ => (op_callH inferInstance (by repeat' (first | exact argsLv_nil | refine argsLv_cons ?_ ?_ | exact Lv.v | exact lvI (by omega) | exact Lv.sl | exact Lv.fp | exact Lv.nil | refine Lv.agg rfl ?_ | refine Lv.fn rfl ?_ rfl ?_ | exact lv_nil | refine lv_cons ?_ ?_ | exact Lv.z0)) (parm_spec hG u) rfl rfl)) ?_
                      refine any_n (rfl : _ = [_, _, _]) ?_
                      refine any_c (_, []) (fun τ => op_mv _ (rfl : _ = AV.sl _ _)) ?_
                      refine any_n (rfl : _ = [_, _, _, _]) ?_
                      refine any_c (_, []) (fun τ => op_mv _ (rfl : _ = AV.v (.int _ _))) ?_
                      refine any_n (rfl : _ = [_, _, _, _, _]) ?_
                      first
                        | refine any_c (_, []) (fun τ => op_ixS _ _ inferInstance rfl rfl _ rfl (by omega) (by first | assumption | decide | (simp only [isl_len, bsl_len, psl_len, mrows_len, nsl_len, ws_len, List.length_map, ul_len, psl_len, isl_len, nrows_len, prL_len]; omega) | (simp; done) | (simp; omega) | (simp [isl, bsl]; omega)) (by first | exact Nat.mul_one _ | rfl | omega)) ?_
                        | refine any_c (_, []) (fun τ => op_ixS _ _ inferInstance rfl rfl (Int.toNat _) (Int.toNat_of_nonneg (by omega)).symm (by omega) (by first | assumption | decide | (simp only [isl_len, bsl_len, psl_len, mrows_len, nsl_len, ws_len, List.length_map, ul_len, psl_len, isl_len, nrows_len, prL_len]; omega) | (simp; done) | (simp; omega) | (simp [isl, bsl]; omega)) (by first | exact Nat.mul_one _ | rfl | omega)) ?_
                      refine any_n (rfl : _ = [_, _, _, _, _, _]) ?_
                      refine any_c (_, []) (fun τ => op_ldF _ inferInstance rfl (by exact hget) rfl) ?_
                      refine any_n (rfl : _ = [_, _, _, _, _, _, _]) ?_
                      refine any_c (_, []) (fun τ => op_mv _ (rfl : _ = AV.v (.int _ _))) ?_
                      refine any_n (rfl : _ = [_, _, _, _, _, _, _, _]) ?_
                      refine any_c (_, []) (fun τ => op_ixS _ _ inferInstance rfl rfl u rfl (by omega) (by omega) (Nat.mul_one _)) ?_
                      refine any_n (rfl : _ = [_, _, _, _, _, _, _, _, _]) ?_
                      refine any_c (_, []) (fun τ => op_ldF _ inferInstance rfl (by exact nrows_get _ _ (by omega)) rfl) ?_
                      refine any_n (rfl : _ = [_, _, _, _, _, _, _, _, _, _]) ?_
                      refine any_c (_, []) (fun τ => (op_callH inferInstance (by repeat' (first | exact argsLv_nil | refine argsLv_cons ?_ ?_ | exact Lv.v | exact lvI (by omega) | exact Lv.sl | exact Lv.fp | exact Lv.nil | refine Lv.agg rfl ?_ | refine Lv.fn rfl ?_ rfl ?_ | exact lv_nil | refine lv_cons ?_ ?_ | exact Lv.z0)) (sorted_spec (Q.getD u []).length (Q.getD u []) rfl (by omega)) rfl rfl)) ?_
                      refine any_n (rfl : _ = [_, _, _, _, _, _, _, _, _, _, _]) ?_
                      refine any_c (_, []) (fun τ => (op_callH inferInstance (by repeat' (first | exact argsLv_nil | refine argsLv_cons ?_ ?_ | exact Lv.v | exact lvI (by omega) | exact Lv.sl | exact Lv.fp | exact Lv.nil | refine Lv.agg rfl ?_ | refine Lv.fn rfl ?_ rfl ?_ | exact lv_nil | refine lv_cons ?_ ?_ | exact Lv.z0)) (same_par hG (by omega)) rfl rfl)) ?_
                      refine any_n (rfl : _ = [_, _, _, _, _, _, _, _, _, _, _, _]) ?_
                      refine any_c (_, []) (fun τ => op_not _ rfl rfl) ?_
                      refine any_n (rfl : _ = [_, _, _, _, _, _, _, _, _, _, _, _, _]) ?_
                      refine any_c (_, []) (fun τ => op_mv _ (rfl : _ = AV.v (.bool _))) ?_
                      refine any_caseC (fun hg164 => ?_) (fun hg164 => ?_)
                      · skip
                        refine any_n (rfl : _ = [_, _, _, _, _, _, _, _, _, _, _, _, _, _]) ?_
                        refine any_cn rfl (fun τ => rfl) (by decide) ?_
                        refine any_n (rfl : _ = [_, _, _, _, _, _, _, _, _, _, _, _, _, _, _]) ?_
                        refine any_cn rfl (fun τ => rfl) (by decide) ?_
                        refine any_n (rfl : _ = [_, _, _, _, _, _, _, _, _, _, _, _, _, _, _, _]) ?_
                        refine any_cn rfl (fun τ => rfl) (by decide) ?_
                        refine any_n (rfl : _ = [_, _, _, _, _, _, _, _, _, _, _, _, _, _, _, _, _]) ?_
                        refine any_cn rfl (fun τ => rfl) (by decide) ?_
                        refine any_n (rfl : _ = [_, _, _, _, _, _, _, _, _, _, _, _, _, _, _, _, _, _]) ?_
                        refine any_cn rfl (fun τ => rfl) (by decide) ?_
                        refine any_n (rfl : _ = [_, _, _, _, _, _, _, _, _, _, _, _, _, _, _, _, _, _, _]) ?_
                        refine any_cn rfl (fun τ => rfl) (by decide) ?_
                        refine any_n (rfl : _ = [_, _, _, _, _, _, _, _, _, _, _, _, _, _, _, _, _, _, _, _]) ?_
                        refine any_cn rfl (fun τ => rfl) (by decide) ?_
                        refine any_n (rfl : _ = [_, _, _, _, _, _, _, _, _, _, _, _, _, _, _, _, _, _, _, _, _]) ?_
                        refine any_cn rfl (fun τ => rfl) (by decide) ?_
                        refine any_n (rfl : _ = [_, _, _, _, _, _, _, _, _, _, _, _, _, _, _, _, _, _, _, _, _, _]) ?_
                        refine any_cn rfl (fun τ => rfl) (by decide) ?_
                        refine any_n (rfl : _ = [_, _, _, _, _, _, _, _, _, _, _, _, _, _, _, _, _, _, _, _, _, _, _]) ?_
                        refine any_cn rfl (fun τ => rfl) (by decide) ?_
                        refine any_n (rfl : _ = [_, _, _, _, _, _, _, _, _, _, _, _, _, _, _, _, _, _, _, _, _, _, _, _]) ?_
                        refine any_cn rfl (fun τ => rfl) (by decide) ?_
                        refine any_n (rfl : _ = [_, _, _, _, _, _, _, _, _, _, _, _, _, _, _, _, _, _, _, _, _, _, _, _, _]) ?_
                        refine any_c (_, []) (fun τ => op_pick _ _ _ rfl (rfl : _ = AV.v (.bool _))) ?_
                        refine any_n (rfl : _ = [_, _, _, _, _, _, _, _, _, _, _, _, _, _, _, _, _, _, _, _, _, _, _, _, _, _]) ?_
                        refine any_end ⟨rfl, ?_⟩
                        refine DL_nil (hK73 _ ?_)
                        clear hK73; try clear K73
                        refine D_cT rfl rfl ?_
                        refine D_seq fun K74 hK74 => ?_
                        refine D_le (σ' := mkStI 178 [] [] [] []) (by
                          refine Le.mkJ [] [] rfl ?_ ?_ trivial trivial ?_
                          · exact trivial
                          · exact trivial
                          · kernel_rfl) ?_
                        refine D_region ?_
                        refine DL_c (op_as _ (rfl : _ = AV.v (.bool _))) ?_
                        refine DL_nil (hK74 _ ?_)
                        clear hK74; try clear K74
                        refine D_ret ?_
                        first | (cases hg95; done) | (cases hg112; done) | (cases hg118; done) | (cases hg129; done) | (cases hg164; done) | exact ret1 (.inr rfl) rfl (.tmp (rfl : _ = AV.v (.bool _))) (Le.out [] [] .v rfl rfl rfl trivial trivial)
                      · skip
                        refine any_n (rfl : _ = [_, _, _, _, _, _, _, _, _, _, _, _, _, _]) ?_
                        refine any_cy (_, []) rfl (fun τ => rfl) (fun τ => op_mv _ (rfl : _ = AV.fp _ _)) ?_
                        refine any_n (rfl : _ = [_, _, _, _, _, _, _, _, _, _, _, _, _, _, _]) ?_
                        refine any_cy (_, []) rfl (fun τ => rfl) (fun τ => op_mv _ (rfl : _ = AV.v (.int _ _))) ?_
                        refine any_n (rfl : _ = [_, _, _, _, _, _, _, _, _, _, _, _, _, _, _, _]) ?_
                        refine any_cy (_, []) rfl (fun τ => rfl) (fun τ => (op_callH inferInstance (by repeat' (first | exact argsLv_nil | refine argsLv_cons ?_ ?_ | exact Lv.v | exact lvI (by omega) | exact Lv.sl | exact Lv.fp | exact Lv.nil | refine Lv.agg rfl ?_ | refine Lv.fn rfl ?_ rfl ?_ | exact lv_nil | refine lv_cons ?_ ?_ | exact Lv.z0)) (ancsN_spec rfl hG.n64 (parW Q) u) rfl rfl)) ?_
                        refine any_n (rfl : _ = [_, _, _, _, _, _, _, _, _, _, _, _, _, _, _, _, _]) ?_
                        refine any_cy (_, []) rfl (fun τ => rfl) (fun τ => op_mv _ (rfl : _ = AV.sl _ _)) ?_
                        refine any_n (rfl : _ = [_, _, _, _, _, _, _, _, _, _, _, _, _, _, _, _, _, _]) ?_
                        refine any_cy (_, []) rfl (fun τ => rfl) (fun τ => op_mv _ (rfl : _ = AV.v (.int _ _))) ?_
                        refine any_n (rfl : _ = [_, _, _, _, _, _, _, _, _, _, _, _, _, _, _, _, _, _, _]) ?_
                        first
                          | refine any_cy (_, []) rfl (fun τ => rfl) (fun τ => op_ixS _ _ inferInstance rfl rfl _ rfl (by omega) (by first | assumption | decide | (simp only [isl_len, bsl_len, psl_len, mrows_len, nsl_len, ws_len, List.length_map, ul_len, psl_len, isl_len, nrows_len, prL_len]; omega) | (simp; done) | (simp; omega) | (simp [isl, bsl]; omega)) (by first | exact Nat.mul_one _ | rfl | omega)) ?_
                          | refine any_cy (_, []) rfl (fun τ => rfl) (fun τ => op_ixS _ _ inferInstance rfl rfl (Int.toNat _) (Int.toNat_of_nonneg (by omega)).symm (by omega) (by first | assumption | decide | (simp only [isl_len, bsl_len, psl_len, mrows_len, nsl_len, ws_len, List.length_map, ul_len, psl_len, isl_len, nrows_len, prL_len]; omega) | (simp; done) | (simp; omega) | (simp [isl, bsl]; omega)) (by first | exact Nat.mul_one _ | rfl | omega)) ?_
                        refine any_n (rfl : _ = [_, _, _, _, _, _, _, _, _, _, _, _, _, _, _, _, _, _, _, _]) ?_
                        refine any_cy (_, []) rfl (fun τ => rfl) (fun τ => op_ldF _ inferInstance rfl (by exact hget) rfl) ?_
                        refine any_n (rfl : _ = [_, _, _, _, _, _, _, _, _, _, _, _, _, _, _, _, _, _, _, _, _]) ?_
                        refine any_cy (_, []) rfl (fun τ => rfl) (fun τ => op_mv _ (rfl : _ = AV.v (.int _ _))) ?_
                        refine any_n (rfl : _ = [_, _, _, _, _, _, _, _, _, _, _, _, _, _, _, _, _, _, _, _, _, _]) ?_
                        refine any_cy (_, []) rfl (fun τ => rfl) (fun τ => (op_callH inferInstance (by repeat' (first | exact argsLv_nil | refine argsLv_cons ?_ ?_ | exact Lv.v | exact lvI (by omega) | exact Lv.sl | exact Lv.fp | exact Lv.nil | refine Lv.agg rfl ?_ | refine Lv.fn rfl ?_ rfl ?_ | exact lv_nil | refine lv_cons ?_ ?_ | exact Lv.z0)) (rancN_spec Q.length Q hG u) rfl rfl)) ?_
                        refine any_n (rfl : _ = [_, _, _, _, _, _, _, _, _, _, _, _, _, _, _, _, _, _, _, _, _, _, _]) ?_
                        refine any_cy (_, []) rfl (fun τ => rfl) (fun τ => (op_callH inferInstance (by repeat' (first | exact argsLv_nil | refine argsLv_cons ?_ ?_ | exact Lv.v | exact lvI (by omega) | exact Lv.sl | exact Lv.fp | exact Lv.nil | refine Lv.agg rfl ?_ | refine Lv.fn rfl ?_ rfl ?_ | exact lv_nil | refine lv_cons ?_ ?_ | exact Lv.z0)) (sameNN _ (by omega)) rfl rfl)) ?_
                        refine any_n (rfl : _ = [_, _, _, _, _, _, _, _, _, _, _, _, _, _, _, _, _, _, _, _, _, _, _, _]) ?_
                        refine any_cy (_, []) rfl (fun τ => rfl) (fun τ => op_not _ rfl rfl) ?_
                        refine any_n (rfl : _ = [_, _, _, _, _, _, _, _, _, _, _, _, _, _, _, _, _, _, _, _, _, _, _, _, _]) ?_
                        refine any_c (_, []) (fun τ => op_pick _ _ _ rfl (rfl : _ = AV.v (.bool _))) ?_
                        refine any_n (rfl : _ = [_, _, _, _, _, _, _, _, _, _, _, _, _, _, _, _, _, _, _, _, _, _, _, _, _, _]) ?_
                        refine any_end ⟨rfl, ?_⟩
                        refine DL_nil (hK73 _ ?_)
                        clear hK73; try clear K73
                        refine D_splitC rfl (fun hc176 => ?_) (fun hc176 => ?_)
                        · skip
                          exact absurd  hc176 (by simp)
                        · skip
                          refine D_skip (hK72 _ ?_)
                          clear hK72; try clear K72
                          refine D_le (σ' := mkStI 178 [(2, _), (17, _), (18, _), (19, _), (21, _)] [] [] []) (by
                            refine Le.mkJ [] [] rfl ?_ ?_ trivial trivial ?_
                            · exact ⟨(iV rfl), (iS rfl), (iV rfl), (iF rfl), (iV rfl), trivial⟩
                            · exact trivial
                            · kernel_rfl) ?_
                          refine D_region ?_
                          refine DL_c (op_mv _ (rfl : _ = AV.v (.int _ _))) ?_
                          first
                            | refine DL_c (op_add _ _ rfl rfl (i64w (by omega))) ?_
                            | refine DL_c (op_add _ _ rfl rfl rfl) ?_
                          refine DL_c (op_as _ (rfl : _ = AV.v (.int _ _))) ?_
                          refine DL_nil ?_
                          refine ⟨u + 1, ?_, ?_, ?_⟩
                          · first | omega | trivial | exact ⟨by omega, by omega⟩
                          · skip
                            refine Le.mkJ [] [] rfl ?_ ?_ trivial trivial ?_
                            · exact ⟨(iV rfl), (iS rfl), (iV rfl), (iF rfl), (lvI (by first | rfl | omega | (simp; done) | (simp; omega) | assumption)), trivial⟩
                            · exact trivial
                            · kernel_rfl
                          · omega
                    · skip
                      refine D_exit ?_
                      refine id (hK52 _ ?_)
                      clear hK52; try clear K52
                      refine D_region ?_
                      refine DL_c (op_mv _ (rfl : _ = AV.v (.int _ _))) ?_
                      first
                        | refine DL_c (op_add _ _ rfl rfl (i64w (by omega))) ?_
                        | refine DL_c (op_add _ _ rfl rfl rfl) ?_
                      refine DL_c (op_as _ (rfl : _ = AV.v (.int _ _))) ?_
                      refine DL_nil ?_
                      refine ⟨j + 1, ?_, ?_, ?_⟩
                      · first | omega | trivial | exact ⟨by omega, by omega⟩
                      · skip
                        refine Le.mkJ [] [] rfl ?_ ?_ trivial trivial ?_
                        · exact ⟨(iV rfl), (iS rfl), (lvI (by first | rfl | omega | (simp; done) | (simp; omega) | assumption)), trivial⟩
                        · exact trivial
                        · kernel_rfl
                      · omega
    · skip
      refine D_exit ?_
      refine id (hK48 _ ?_)
      clear hK48; try clear K48
      refine D_seq fun K75 hK75 => ?_
      refine D_region ?_
      refine DL_c (op_callH inferInstance (by repeat' (first | exact argsLv_nil | refine argsLv_cons ?_ ?_ | exact Lv.v | exact lvI (by omega) | exact Lv.sl | exact Lv.fp | exact Lv.nil | refine Lv.agg rfl ?_ | refine Lv.fn rfl ?_ rfl ?_ | exact lv_nil | refine lv_cons ?_ ?_ | exact Lv.z0)) (livesv_spec) rfl rfl) ?_
      refine DL_c (op_as _ (rfl : _ = AV.v (.bool _))) ?_
      refine DL_nil (hK75 _ ?_)
      clear hK75; try clear K75
      refine D_ret ?_
      first | (cases hg95; done) | (cases hg112; done) | (cases hg118; done) | (cases hg129; done) | (cases hg164; done) | exact ret1 (.inr rfl) rfl (.tmp (rfl : _ = AV.v (.bool _))) (Le.out [] [] .v rfl rfl rfl trivial trivial)
end Go.Proofs.Ytkbkmngbenohkaa
