/- Part 16 of the texts that the walk leans on: the machine, the walks, the plain laws. -/
import Derived.Test.YtkbkmngbenohkaaBmZ15
set_option linter.unusedSimpArgs false
set_option linter.unusedVariables false
namespace Go.Proofs.Ytkbkmngbenohkaa
open Go.RowKit

theorem rfindR_spec {n : Nat} {Ps : List (List Int)} (hG : GG n Ps) (st : List Int) (hst : st.length = n) (h012 : ∀ v, v < n → st.getD v 0 = 0 ∨ st.getD v 0 = 1 ∨ st.getD v 0 = 2) (head : Int) :
  Spec Try.prog 74 (inSt [.sl n (nrows Ps), .v (.int .i64 head), .sl n (isl st)] [])
   (outSt (.tup [.sl (findR n Ps st head).2.1.length (blR (findR n Ps st head).2.1), .sl (findR n Ps st head).2.2.1.length (nsl (findR n Ps st head).2.2.1), .v (.int .i64 (findR n Ps st head).2.2.2)]) []) := by
 unfold findR
 by_cases hr : head < 0 ∨ (n : Int) ≤ head
 ·rw [if_pos hr]
  exact rfind_arg n Ps hG.len st head hr
 ·rw [if_neg hr]
  obtain ⟨h, rfl⟩ := Int.eq_ofNat_of_zero_le (show 0 ≤ head by omega)
  have hh : h < n := by omega
  rw [Int.toNat_natCast]
  by_cases hs : nst st h = 1
  ·rw [if_neg (fun hn => hn hs)]
   have hF := rfind_ok hG st hst h012 (fun h hh => scp_up hG.len hG.n64 hh) h hh hs _ rfl
   generalize fnd (Rn n Ps) n (fun v => wat n (parW Ps) (v : Int)) st h (upE Ps h) = r at hF ⊢
   obtain ⟨⟨ord, bl⟩, b⟩ := r
   cases b with
   | true =>
    rw [if_pos rfl] at hF ⊢
    exact hF
   | false =>
    rw [if_neg (by simp)] at hF ⊢
    exact hF
  ·rw [if_pos hs]
   exact rfind_ver hG st hst h012 h hh hs
theorem bls_el {vs : Nat → VS → VS × Bool} {n : Nat} {l : List Nat} {q : BS} (h : ∀ b ∈ q.2, b.2.length ≤ n) : ∀ b ∈ (vlist (bstep vs n) l q).1.2, b.2.length ≤ n := by
 refine vlist_inv (I := fun q => ∀ b ∈ q.2, b.2.length ≤ n) l q (fun v _ q hq b hb => ?_) h
 unfold bstep at hb
 split at hb
 ·rcases List.mem_append.1 hb with hb | hb
  ·exact hq b hb
  ·simp at hb; subst hb; exact fil_len n _
 ·exact hq b hb
theorem getD_el {l : List (Nat × List Nat)} {n : Nat} (h : ∀ b ∈ l, b.2.length ≤ n) (i : Nat) : (l.getD i (0, [])).2.length ≤ n := by
 by_cases hi : i < l.length
 ·exact h _ (getD_mem' _ hi)
 ·rw [List.getD_eq_getElem?_getD, List.getElem?_eq_none (by omega)]; exact Nat.zero_le _
theorem findR_bd {n : Nat} {Ps : List (List Int)} (hPs : Ps.length = n) (h64 : n ≤ 64) (hV : Valid Ps) (hlt : ∀ {a b : Nat}, Clo (edg Ps n 0) a b → a < b) (st : List Int) (head : Int) :
  (findR n Ps st head).2.1.length ≤ 64 ∧ (∀ i, ((findR n Ps st head).2.1.getD i (0, [])).2.length ≤ 64) ∧ (findR n Ps st head).2.2.1.length ≤ 64 := by
 by_cases hr : head < 0 ∨ (n : Int) ≤ head
 ·unfold findR
  rw [if_pos hr]
  exact ⟨Nat.zero_le _, fun i => Nat.zero_le _, Nat.zero_le _⟩
 ·obtain ⟨h, rfl⟩ := Int.eq_ofNat_of_zero_le (show 0 ≤ head by omega)
  have hh : h < n := by omega
  obtain ⟨e1, _, _, e4, e5⟩ := findR_eco hPs h64 hV hlt st hh
  have hod : (findR n Ps st (h : Int)).2.2.1.length ≤ 64 := by
   by_cases he : (findR n Ps st (h : Int)).2.2.2 = 0
   ·rw [e4 he]; have := e1.len; omega
   ·rw [e5 he]; exact Nat.zero_le _
  refine ⟨?_, ?_, hod⟩
  ·unfold findR
   rw [if_neg hr, Int.toNat_natCast]
   split
   ·exact Nat.zero_le _
   ·split
    ·rename_i ht
     simp only
     unfold fnd at ht ⊢
     split at ht
     ·rename_i h2
      rw [if_pos h2]
      rw [bls_len _ _ ht]
      simp only [List.length_nil, Nat.zero_add]
      exact Nat.le_trans (Nat.le_trans (List.length_filter_le _ _) (tst_len _ _ _ _)) h64
     ·cases ht
    ·exact Nat.zero_le _
  ·unfold findR
   rw [if_neg hr, Int.toNat_natCast]
   split
   ·exact fun i => Nat.zero_le _
   ·split
    ·refine fun i => getD_el (fun b hb => ?_) i
     simp only at hb
     unfold fnd at hb
     split at hb
     ·exact Nat.le_trans (bls_el (fun b hb => by simp at hb) b hb) h64
     ·simp at hb
    ·exact fun i => Nat.zero_le _
theorem model_law (m : Nat) (l : List Int) (hm : l.length = m) (h1 : m ≤ 4611686018427387904) (hr : Rng l) (ms : Nat) (s : List Int) (hms : s.length = ms) (h2 : ms ≤ 4611686018427387904) (hs : Rng s) (inh : Bool)
  (head : Int) (hh0 : -9223372036854775808 ≤ head ∧ head ≤ 9223372036854775807) :
  Spec Try.prog 21 (inSt [.sl m (isl l), .sl ms (isl s), .v (.bool inh), .v (.int .i64 head)] []) (outSt (.v (.bool true)) []) := by
 have hP := par32_spec m l hm h1 hr
 have hN := par32_near l
 obtain ⟨hn1, hn2⟩ := prM_pos l
 have hPn := par32_len l
 generalize par32 l = Ps at hP hN hPn
 generalize prM l = n at hP hPn hn1 hn2
 have hG : GG n Ps := hPn ▸ hN.gg
 have hst := status32_len Ps s inh
 have h012 := status_012 Ps s inh
 have hSt := status_spec n Ps hG ms s hms h2 hs inh
 rw [hPn] at hst h012
 generalize status32 Ps s inh = st at hSt hst h012
 have hn64 : n ≤ 64 := by omega
 have hlt : ∀ {a b : Nat}, Clo (edg Ps n 0) a b → a < b := fun hc => hN.lt (by rw [hPn]; exact hc)
 have hF := fun head => findR_spec hPn hn64 hG.V hlt st (by omega) head
 unfold findS at hF
 simp only [hst] at hF
 have hR := fun head => rfindR_spec hG st hst h012 head
 have hB := fun head => findR_bd hPn hn64 hG.V hlt st head
 have hAr := around_spec head n (by omega) (by omega) hh0.1 hh0.2
 obtain ⟨ar, har⟩ : ∃ ar, ar = around head n := ⟨_, rfl⟩
 rw [← har] at hAr
 clear har
 obtain ⟨H, hH⟩ : ∃ H : List Int, H = [head, ar, (n : Int) - 1] := ⟨_, rfl⟩
 have hHl : H.length = 3 := by rw [hH]; rfl
 have hHe : isl H = [PV.v (.int .i64 head), PV.v (.int .i64 ar), PV.v (.int .i64 ((n : Int) - 1))] := by rw [hH]; rfl
 refine Spec.ofN Try.func21 rfl Try.ntmps21 rfl ?_
 refine D_seq fun K1 hK1 => ?_
 refine D_region ?_
 refine DL_c (asB rfl) ?_
 refine DL_nil (hK1 _ ?_)
 clear hK1; try clear K1
 refine D_seq fun K2 hK2 => ?_
 refine D_region ?_
 refine DL_c (mvS rfl) ?_
 refine DL_c (op_callH inferInstance (by repeat' (first | exact argsLv_nil | refine argsLv_cons ?_ ?_ | exact Lv.sl)) (hP) rfl rfl) ?_
 refine DL_c (asS rfl) ?_
 refine DL_nil (hK2 _ ?_)
 clear hK2; try clear K2
 refine D_seq fun K3 hK3 => ?_
 refine D_region ?_
 refine DL_c (mvS rfl) ?_
 refine DL_c (mvS rfl) ?_
 refine DL_c (mvB rfl) ?_
 refine DL_c (op_callH inferInstance (by repeat' (first | exact argsLv_nil | refine argsLv_cons ?_ ?_ | exact Lv.v | exact Lv.sl)) (hSt) rfl rfl) ?_
 refine DL_c (asS rfl) ?_
 refine DL_nil (hK3 _ ?_)
 clear hK3; try clear K3
 refine D_seq fun K4 hK4 => ?_
 refine D_region ?_
 refine DL_c (mvS rfl) ?_
 refine DL_c (op_callH inferInstance (by repeat' (first | exact argsLv_nil | refine argsLv_cons ?_ ?_ | exact Lv.sl)) (newN_spec hN hPn) rfl rfl) ?_
 refine DL_c (op_mv _ (rfl : _ = AV.tup _)) ?_
 refine DL_c (op_ext _ rfl (rfl : _ = some (AV.fp _ _))) ?_
 refine DL_c (op_ext _ rfl (rfl : _ = some (AV.v (.int _ _)))) ?_
 refine DL_c (op_as _ (rfl : _ = AV.fp _ _)) ?_
 refine DL_c (asI rfl) ?_
 refine DL_nil (hK4 _ ?_)
 clear hK4; try clear K4
 refine D_seq fun K5 hK5 => ?_
 refine D_seq fun K6 hK6 => ?_
 refine D_le (σ' := mkStI 94 [(3, _), (9, _), (10, _), (11, _), (12, _)] [] [] []) (by
  refine Le.mkJ [] [] rfl ?_ ?_ trivial trivial ?_
  ·exact ⟨(iV rfl), (iS rfl), (iS rfl), (iF rfl), (iV rfl), trivial⟩
  ·exact trivial
  ·kernel_rfl) ?_
 refine D_region ?_
 refine DL_c (op_mv _ (rfl : _ = AV.fp _ _)) ?_
 refine DL_c (op_eqN _ _ (by kernel_rfl) (.inr ⟨_, _, rfl⟩) rfl) ?_
 refine DL_c (mvB rfl) ?_
 refine DL_cy rfl rfl (mvI rfl) ?_
 refine DL_cy rfl rfl (op_neq (r := false) _ _ rfl rfl rfl) ?_
 refine DL_c (op_pick (b := false) _ _ _ rfl rfl) ?_
 refine DL_nil (hK6 _ ?_)
 clear hK6; try clear K6
 refine D_cF rfl rfl ?_
 refine D_skip (hK5 _ ?_)
 clear hK5; try clear K5
 refine D_seq fun K7 hK7 => ?_
 refine D_region ?_
 refine DL_c (mvI rfl) ?_
 refine DL_c (mvI rfl) ?_
 refine DL_c (mvS rfl) ?_
 refine DL_c (op_lenS _ inferInstance rfl) ?_
 refine DL_c (op_callH inferInstance (by repeat' (first | exact argsLv_nil | refine argsLv_cons ?_ ?_ | exact Lv.v)) (hAr) rfl rfl) ?_
 refine DL_c (mvS rfl) ?_
 refine DL_c (op_lenS _ inferInstance rfl) ?_
 refine DL_c (op_sub _ _ rfl rfl (i64w (by omega))) ?_
 refine DL_c (op_bsF _ _ inferInstance rfl (by rfl) (by simp <;> rfl) (by decide) rfl) ?_
 refine DL_c (asS rfl) ?_
 refine DL_nil (hK7 _ ?_)
 clear hK7; try clear K7
 refine D_seq fun K8 hK8 => ?_
 refine D_seq fun K9 hK9 => ?_
 refine D_le (σ' := mkStI 94 [(9, _), (10, _), (11, _), (13, _)] [] [] []) (by
  refine Le.mkJ [] [] rfl ?_ ?_ trivial trivial ?_
  ·exact ⟨(iS rfl), (iS rfl), (iF rfl), (iS rfl), trivial⟩
  ·exact trivial
  ·kernel_rfl) ?_
 refine D_region ?_
 refine DL_c (asI rfl) ?_
 refine DL_nil (hK9 _ ?_)
 clear hK9; try clear K9
 refine D_block ?_
 refine D_loopL (α := Nat) (fun i => i ≤ 3) 94 [(9, _), (10, _), (11, _)] [] (fun i => [(14, .v (.int .i64 (i : Int))), (13, .sl 3 (isl H))]) (fun i => []) [] [] (fun i => 3 - i) 0 ?_ (by
  refine Le.mkJ [] [] rfl ?_ ?_ trivial trivial ?_
  ·exact ⟨(iS rfl), (iS rfl), (iF rfl), (lvI (by rfl)), (lvSr (by rfl) (by omega)), trivial⟩
  ·exact trivial
  ·kernel_rfl) ?_
 ·omega
 intro i hi
 refine D_seq fun K10 hK10 => ?_
 refine D_seq fun K11 hK11 => ?_
 refine D_region ?_
 refine DL_c (mvI rfl) ?_
 refine DL_c (op_lss _ _ rfl rfl rfl) ?_
 refine DL_nil (hK11 _ ?_)
 clear hK11; try clear K11
 refine D_splitC rfl (fun hc49 => ?_) (fun hc49 => ?_)
 ·skip
  obtain ⟨x, hx⟩ : ∃ x, x = H.getD i 0 := ⟨_, rfl⟩
  have hFx := hF x
  have hRx := hR x
  obtain ⟨hB1, hB2, hB3⟩ := hB x
  generalize findR n Ps st x = r at hFx hRx hB1 hB2 hB3
  obtain ⟨cl, bl, od, er⟩ := r
  simp only at hFx hRx hB1 hB2 hB3
  have hs3 := same33_spec bl.length bl.length bl bl rfl rfl (by omega) (by omega) (fun i => by have := hB2 i; omega) (fun i => by have := hB2 i; omega)
  rw [decide_eq_true rfl] at hs3
  have hsm := same_spec od.length od.length (od.map fun (x : Nat) => (x : Int)) (od.map fun (x : Nat) => (x : Int)) (by simp) (by simp) (by omega) (by omega)
  rw [decide_eq_true rfl] at hsm
  refine D_skip (hK10 _ ?_)
  clear hK10; try clear K10
  refine D_seq fun K12 hK12 => ?_
  refine D_block ?_
  refine D_seq fun K13 hK13 => ?_
  refine D_region ?_
  refine DL_c (mvS rfl) ?_
  refine DL_c (op_build _ inferInstance rfl (by exact (rfl : _ = some [_, _]))) ?_
  refine DL_c (op_box (54, 0) _ rfl rfl) ?_
  refine DL_c (op_as _ (rfl : _ = AV.ptr _ _)) ?_
  refine DL_nil (hK13 _ ?_)
  clear hK13; try clear K13
  refine D_seq fun K14 hK14 => ?_
  refine D_region ?_
  refine DL_c (op_mv _ (rfl : _ = AV.fp _ _)) ?_
  refine DL_c (mvS rfl) ?_
  refine DL_c (mvI rfl) ?_
  refine DL_c (op_ixS _ _ inferInstance rfl rfl _ rfl (by omega) (by (simp only [isl_len, bsl_len, psl_len, mrows_len, nsl_len, ws_len, List.length_map, ul_len, psl_len, isl_len, nrows_len, mmap_len, smap_len, dcl_len, blR_len, prL_len, stK_len, inh1_len, st0_len, status32_len]; omega)) (by exact Nat.mul_one _)) ?_
  refine DL_c (op_ldF _ inferInstance rfl (by exact (isl_get _ _ (by omega)).trans (by rw [← hx])) rfl) ?_
  refine DL_c (op_mv _ (rfl : _ = AV.ptr _ _)) ?_
  refine DL_c (op_mf _ _ (rfl : _ = [_]) (rfl : _ = [])) ?_
  refine DL_c (op_callP inferInstance [((3, 9), (54, 0)), ((4, 8), (60, 0))] ?_ (hFx) ⟨⟨rfl, ⟨_, rfl, .box rfl (lv_cons .sl (lv_cons .v lv_nil))⟩, rfl⟩, trivial⟩ ⟨rfl, rfl, trivial⟩ (by kernel_rfl)) ?_
  ·repeat' (first | exact argsR_nil | refine argsR_cons ?_ ?_ | exact Lv.v | exact Lv.fp | exact lvPr rfl | refine Lv.fn rfl ?_ rfl ?_ | exact lv_nil | refine lv_cons ?_ ?_)
  refine DL_c (op_mv _ (rfl : _ = AV.tup _)) ?_
  refine DL_c (op_ext _ rfl (rfl : _ = some (AV.sl _ _))) ?_
  refine DL_c (op_ext _ rfl (rfl : _ = some (AV.sl _ _))) ?_
  refine DL_c (op_ext _ rfl (rfl : _ = some (AV.v (.int _ _)))) ?_
  refine DL_c (asS rfl) ?_
  refine DL_c (asS rfl) ?_
  refine DL_c (asI rfl) ?_
  refine DL_nil (hK14 _ ?_)
  clear hK14; try clear K14
  refine D_seq fun K15 hK15 => ?_
  refine D_le (σ' := mkStI 94 [(9, _), (10, _), (11, _), (13, _), (14, _), (16, _), (17, _), (18, _)] [] [] []) (by
   refine Le.mkJ [] [] rfl ?_ ?_ trivial trivial ?_
   ·exact ⟨(iS rfl), (iS rfl), (iF rfl), (iS rfl), (iV rfl), (iS rfl), (iS rfl), (iV rfl), trivial⟩
   ·exact trivial
   ·kernel_rfl) ?_
  refine D_region ?_
  refine DL_c (mvS rfl) ?_
  refine DL_c (mvS rfl) ?_
  refine DL_c (mvI rfl) ?_
  refine DL_c (op_ixS _ _ inferInstance rfl rfl _ rfl (by omega) (by (simp only [isl_len, bsl_len, psl_len, mrows_len, nsl_len, ws_len, List.length_map, ul_len, psl_len, isl_len, nrows_len, mmap_len, smap_len, dcl_len, blR_len, prL_len, stK_len, inh1_len, st0_len, status32_len]; omega)) (by exact Nat.mul_one _)) ?_
  refine DL_c (op_ldF _ inferInstance rfl (by exact (isl_get _ _ (by omega)).trans (by rw [← hx])) rfl) ?_
  refine DL_c (mvS rfl) ?_
  refine DL_c (op_callH inferInstance (by repeat' (first | exact argsLv_nil | refine argsLv_cons ?_ ?_ | exact Lv.v | exact Lv.sl)) (hRx) rfl rfl) ?_
  refine DL_c (op_mv _ (rfl : _ = AV.tup _)) ?_
  refine DL_c (op_ext _ rfl (rfl : _ = some (AV.sl _ _))) ?_
  refine DL_c (op_ext _ rfl (rfl : _ = some (AV.sl _ _))) ?_
  refine DL_c (op_ext _ rfl (rfl : _ = some (AV.v (.int _ _)))) ?_
  refine DL_c (asS rfl) ?_
  refine DL_c (asS rfl) ?_
  refine DL_c (asI rfl) ?_
  refine DL_nil (hK15 _ ?_)
  clear hK15; try clear K15
  refine D_seq fun K16 hK16 => ?_
  refine D_region ?_
  refine DL_c (mvI rfl) ?_
  refine DL_c (mvI rfl) ?_
  refine DL_c (op_neq (r := false) _ _ rfl rfl (by exact bne_self_eq_false _)) ?_
  refine DL_c (mvB rfl) ?_
  refine DL_cy rfl rfl (mvS rfl) ?_
  refine DL_cy rfl rfl (mvS rfl) ?_
  refine DL_cy rfl rfl (op_callH inferInstance (by repeat' (first | exact argsLv_nil | refine argsLv_cons ?_ ?_ | exact Lv.sl)) (hs3) rfl rfl) ?_
  refine DL_cy rfl rfl (op_not (r := false) _ rfl rfl) ?_
  refine DL_c (op_pick (b := false) _ _ _ rfl rfl) ?_
  refine DL_c (mvB rfl) ?_
  refine DL_cy rfl rfl (mvS rfl) ?_
  refine DL_cy rfl rfl (mvS rfl) ?_
  refine DL_cy rfl rfl (op_callBH inferInstance (by repeat' (first | exact argsLv_nil | refine argsLv_cons ?_ ?_ | exact Lv.sl)) (hsm) rfl) ?_
  refine DL_cy rfl rfl (op_not (r := false) _ rfl rfl) ?_
  refine DL_c (op_pick (b := false) _ _ _ rfl rfl) ?_
  refine DL_nil (hK16 _ ?_)
  clear hK16; try clear K16
  refine D_cF rfl rfl ?_
  refine D_skip (hK12 _ ?_)
  clear hK12; try clear K12
  refine D_le (σ' := mkStI 94 [(9, _), (10, _), (11, _), (13, _), (14, _)] [] [] []) (by
   refine Le.mkJ [] [] rfl ?_ ?_ trivial trivial ?_
   ·exact ⟨(iS rfl), (iS rfl), (iF rfl), (iS rfl), (iV rfl), trivial⟩
   ·exact trivial
   ·kernel_rfl) ?_
  refine D_region ?_
  refine DL_c (mvI rfl) ?_
  refine DL_c (op_add _ _ rfl rfl (i64w (by omega))) ?_
  refine DL_c (asI rfl) ?_
  refine DL_nil ?_
  refine ⟨i + 1, ?_, ?_, ?_⟩
  ·omega
  ·skip
   refine Le.mkJ [] [] rfl ?_ ?_ trivial trivial ?_
   ·exact ⟨(iS rfl), (iS rfl), (iF rfl), (lvI (by rfl)), (lvSr (by rfl) (by rfl)), trivial⟩
   ·exact trivial
   ·kernel_rfl
  ·omega
 ·skip
  refine D_exit ?_
  refine id (hK8 _ ?_)
  clear hK8; try clear K8
  refine D_seq fun K17 hK17 => ?_
  refine D_region ?_
  refine DL_c (op_callH inferInstance (by repeat' (exact argsLv_nil)) (lives33_spec) rfl rfl) ?_
  refine DL_c (asB rfl) ?_
  refine DL_nil (hK17 _ ?_)
  clear hK17; try clear K17
  refine D_ret ?_
  refine ret1 (.inr rfl) rfl (.tmp (rfl : _ = AV.v (.bool _))) (Le.out [] [] (lvB ?_) rfl rfl rfl trivial trivial)
  rfl
end Go.Proofs.Ytkbkmngbenohkaa
