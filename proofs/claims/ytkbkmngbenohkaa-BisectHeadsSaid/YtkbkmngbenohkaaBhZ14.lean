/- Part 14 of the texts that the walk leans on: the machine, the walks, the plain laws. -/
import Derived.Test.YtkbkmngbenohkaaBhZ13
set_option linter.unusedSimpArgs false
set_option linter.unusedVariables false
namespace Go.Proofs.Ytkbkmngbenohkaa
open Go.RowKit

section
variable {st su : List Int} (hns : ∀ v, nst st v = nst su v) {R : Rl} {n : Nat} {par : Nat → List Nat} {h : Nat} {sc : List Nat}
include hns
theorem tst_congr (ord : List Nat) (s : Int) : tst n ord st s = tst n ord su s := by unfold tst; simp only [hns]
theorem con_congr (ord : List Nat) : con R n ord st = con R n ord su := by unfold con; rw [tst_congr hns, tst_congr hns]
theorem opn_congr (ord : List Nat) : opn R n ord st h sc = opn R n ord su h sc := by unfold opn stl; rw [tst_congr hns, tst_congr hns]
theorem cnd_congr (ord : List Nat) : cnd R n ord st = cnd R n ord su := by unfold cnd; rw [tst_congr hns]
theorem lop_congr : ∀ (k : Nat) (ord : List Nat), lop R n st h sc k ord = lop R n su h sc k ord
 | 0, _ => rfl
 | k + 1, ord => by
  unfold lop
  rw [opn_congr hns, con_congr hns]
  split
  ·rfl
  ·split
   ·rfl
   ·exact lop_congr k _
theorem vsF_congr : vsF R n par st = vsF R n par su := by
 have e1 : (fun o => con R n o st) = fun o => con R n o su := funext fun o => con_congr hns o
 have e2 : unN st = unN su := funext fun v => by unfold unN; rw [hns]
 unfold vsF
 rw [e1, e2]
theorem fnd_congr : fnd R n par st h sc = fnd R n par su h sc := by
 unfold fnd
 rw [lop_congr hns, vsF_congr hns, cnd_congr hns]
theorem findR_congr {Ps : List (List Int)} (head : Int) : findR n Ps st head = findR n Ps su head := by
 unfold findR
 rw [hns, fnd_congr hns]
end
/-- The statuses with an odd one in place of untestable. -/
def odds (st : List Int) (odd : Int) (k : Nat) : List Int := (List.range k).map fun i => if st.getD i 0 = 2 ∧ odd ≠ 0 ∧ odd ≠ 1 then odd else st.getD i 0
@[simp] theorem odds_len (st : List Int) (odd : Int) (k : Nat) : (odds st odd k).length = k := by simp [odds]
theorem odds_succ (st : List Int) (odd : Int) (k : Nat) : odds st odd (k + 1) = odds st odd k ++ [if st.getD k 0 = 2 ∧ odd ≠ 0 ∧ odd ≠ 1 then odd else st.getD k 0] := by simp [odds, List.range_succ]
theorem odds_nst {n : Nat} {st : List Int} (h012 : ∀ v, v < n → st.getD v 0 = 0 ∨ st.getD v 0 = 1 ∨ st.getD v 0 = 2) (hst : st.length = n) (odd : Int) (v : Nat) : nst st v = nst (odds st odd n) v := by
 by_cases hv : v < n
 ·rw [nst_eq h012 hst hv]
  have e : (odds st odd n).getD v 2 = if st.getD v 0 = 2 ∧ odd ≠ 0 ∧ odd ≠ 1 then odd else st.getD v 0 := by simp [odds, List.getD_eq_getElem?_getD, hv]
  unfold nst
  rw [e]
  by_cases hc : st.getD v 0 = 2 ∧ odd ≠ 0 ∧ odd ≠ 1
  ·rw [if_pos hc, if_pos hc.2, hc.1]
  ·rw [if_neg hc]
   rcases h012 v hv with h | h | h <;> rw [h] <;> decide
 ·unfold nst
  rw [List.getD_eq_getElem?_getD, List.getD_eq_getElem?_getD, List.getElem?_eq_none (by omega), List.getElem?_eq_none (by rw [odds_len]; omega)]
theorem status_012 (Ps : List (List Int)) (s : List Int) (b : Bool) : ∀ v, v < Ps.length → (status32 Ps s b).getD v 0 = 0 ∨ (status32 Ps s b).getD v 0 = 1 ∨ (status32 Ps s b).getD v 0 = 2 := by
 have h0 : ∀ v, (st0 Ps.length s).getD v 0 = 0 ∨ (st0 Ps.length s).getD v 0 = 1 ∨ (st0 Ps.length s).getD v 0 = 2 := by
  intro v
  by_cases hv : v < Ps.length
  ·have := stv_bd s v
   have e : (st0 Ps.length s).getD v 0 = stv s v := by simp [st0, List.getD_eq_getElem?_getD, hv]
   rw [e]; omega
  ·rw [List.getD_eq_getElem?_getD, List.getElem?_eq_none (by rw [st0_len]; omega)]; exact .inl rfl
 have hset : ∀ (o : List Int) (v : Nat), (∀ i, o.getD i 0 = 0 ∨ o.getD i 0 = 1 ∨ o.getD i 0 = 2) → ∀ i, (o.set v 1).getD i 0 = 0 ∨ (o.set v 1).getD i 0 = 1 ∨ (o.set v 1).getD i 0 = 2 := by
  intro o v ho i
  rw [getD_set]
  split
  ·exact .inr (.inl rfl)
  ·exact ho i
 have hinh : ∀ (a : List Nat) (o : List Int) (v : Nat), (∀ i, o.getD i 0 = 0 ∨ o.getD i 0 = 1 ∨ o.getD i 0 = 2) → ∀ i, (inh1 o v a).getD i 0 = 0 ∨ (inh1 o v a).getD i 0 = 1 ∨ (inh1 o v a).getD i 0 = 2 := by
  intro a
  induction a with
  | nil => exact fun o v h => h
  | cons u a ih =>
   intro o v ho
   have e : inh1 o v (u :: a) = inh1 (if o.getD u 0 = 1 ∧ o.getD v 0 = 0 then o.set v 1 else o) v a := rfl
   rw [e]
   apply ih
   split
   ·exact hset o v ho
   ·exact ho
 have hK : ∀ k i, (stK Ps s b k).getD i 0 = 0 ∨ (stK Ps s b k).getD i 0 = 1 ∨ (stK Ps s b k).getD i 0 = 2 := by
  intro k
  induction k with
  | zero => rw [stK_zero]; exact h0
  | succ k ih =>
   cases b with
   | false => rw [stK_false Ps s (k + 1) 0, stK_zero]; exact h0
   | true => rw [stK_succ]; exact hinh _ _ _ ih
 exact fun v _ => hK Ps.length v
theorem heads_law (m : Nat) (l : List Int) (hm : l.length = m) (h1 : m ≤ 4611686018427387904) (hr : Rng l) (ms : Nat) (s : List Int) (hms : s.length = ms) (h2 : ms ≤ 4611686018427387904) (hs : Rng s)
  (head odd : Int) (hh0 : -9223372036854775808 ≤ head ∧ head ≤ 9223372036854775807) :
  Spec Try.prog 23 (inSt [.sl m (isl l), .sl ms (isl s), .v (.int .i64 head), .v (.int .i64 odd)] []) (outSt (.v (.bool true)) []) := by
 have hP := par32_spec m l hm h1 hr
 have hN := par32_near l
 obtain ⟨hn1, hn2⟩ := prM_pos l
 have hPn := par32_len l
 generalize par32 l = Ps at hP hN hPn
 generalize prM l = n at hP hPn hn1 hn2
 have hG : GG n Ps := hPn ▸ hN.gg
 have hst := status32_len Ps s false
 have h012 := status_012 Ps s false
 have hSt := status_spec n Ps hG ms s hms h2 hs false
 rw [hPn] at hst h012
 generalize status32 Ps s false = st at hSt hst h012
 have hn64 : n ≤ 64 := by omega
 have hlt : ∀ {a b : Nat}, Clo (edg Ps n 0) a b → a < b := fun hc => hN.lt (by rw [hPn]; exact hc)
 have hF := findR_spec hPn hn64 hG.V hlt st (by omega) head
 have hF2 := findR_spec hPn hn64 hG.V hlt (odds st odd n) (by rw [odds_len]; omega) head
 rw [← findR_congr (odds_nst h012 hst odd)] at hF2
 have fA : head < 0 ∨ (n : Int) ≤ head → findR n Ps st head = ([], [], [], 1) := fun h => by unfold findR; rw [if_pos h]
 have fB : ¬ (head < 0 ∨ (n : Int) ≤ head) → st.getD head.toNat 0 ≠ 1 → findR n Ps st head = ([head.toNat], [], [], 41) := fun h h' => by
  unfold findR; rw [if_neg h, if_pos (by rw [nst_eq h012 hst (by omega)]; exact h')]
 have fC : ¬ (head < 0 ∨ (n : Int) ≤ head) → st.getD head.toNat 0 = 1 → (findR n Ps st head).2.2.2 ≠ 1 ∧ (findR n Ps st head).2.2.2 ≠ 41 := fun h h' => by
  unfold findR; rw [if_neg h, if_neg (fun hn => hn (by rw [nst_eq h012 hst (by omega)]; exact h'))]
  split
  ·exact ⟨show (0 : Int) ≠ 1 by decide, show (0 : Int) ≠ 41 by decide⟩
  ·exact ⟨show (42 : Int) ≠ 1 by decide, show (42 : Int) ≠ 41 by decide⟩
 have fL : (findR n Ps st head).1.length ≤ 64 := by
  by_cases h : head < 0 ∨ (n : Int) ≤ head
  ·rw [fA h]; exact Nat.zero_le _
  ·obtain ⟨k, rfl⟩ := Int.eq_ofNat_of_zero_le (show 0 ≤ head by omega)
   have := (findR_eco hPn hn64 hG.V hlt st (show k < n by omega)).1.len
   omega
 unfold findS at hF hF2
 rw [hst] at hF
 rw [odds_len] at hF2
 generalize findR n Ps st head = r at hF hF2 fA fB fC fL
 obtain ⟨cl, bl, od, er⟩ := r
 simp only [Prod.mk.injEq] at hF hF2 fA fB fC fL
 have hsm := same_spec cl.length cl.length (cl.map fun (x : Nat) => (x : Int)) (cl.map fun (x : Nat) => (x : Int)) (by simp) (by simp) (by omega) (by omega)
 rw [decide_eq_true rfl] at hsm
 refine Spec.ofN Try.func23 rfl Try.ntmps23 rfl ?_
 refine D_seq fun K1 hK1 => ?_
 refine D_region ?_
 refine DL_c (op_as _ (rfl : _ = AV.v (.bool _))) ?_
 refine DL_nil (hK1 _ ?_)
 clear hK1; try clear K1
 refine D_seq fun K2 hK2 => ?_
 refine D_region ?_
 refine DL_c (op_mv _ (rfl : _ = AV.sl _ _)) ?_
 refine DL_c (op_callH inferInstance (by repeat' (first | exact argsLv_nil | refine argsLv_cons ?_ ?_ | exact Lv.sl)) (hP) rfl rfl) ?_
 refine DL_c (op_as _ (rfl : _ = AV.sl _ _)) ?_
 refine DL_nil (hK2 _ ?_)
 clear hK2; try clear K2
 refine D_seq fun K3 hK3 => ?_
 refine D_region ?_
 refine DL_c (op_mv _ (rfl : _ = AV.sl _ _)) ?_
 refine DL_c (op_mv _ (rfl : _ = AV.sl _ _)) ?_
 refine DL_c (op_callH inferInstance (by repeat' (first | exact argsLv_nil | refine argsLv_cons ?_ ?_ | exact Lv.v | exact Lv.sl)) (hSt) rfl rfl) ?_
 refine DL_c (op_as _ (rfl : _ = AV.sl _ _)) ?_
 refine DL_nil (hK3 _ ?_)
 clear hK3; try clear K3
 refine D_seq fun K4 hK4 => ?_
 refine D_region ?_
 refine DL_c (op_mv _ (rfl : _ = AV.sl _ _)) ?_
 refine DL_c (op_callH inferInstance (by repeat' (first | exact argsLv_nil | refine argsLv_cons ?_ ?_ | exact Lv.sl)) (newN_spec hN hPn) rfl rfl) ?_
 refine DL_c (op_mv _ (rfl : _ = AV.tup _)) ?_
 refine DL_c (op_ext _ rfl (rfl : _ = some (AV.fp _ _))) ?_
 refine DL_c (op_ext _ rfl (rfl : _ = some (AV.v (.int _ _)))) ?_
 refine DL_c (op_as _ (rfl : _ = AV.fp _ _)) ?_
 refine DL_c (op_as _ (rfl : _ = AV.v (.int _ _))) ?_
 refine DL_nil (hK4 _ ?_)
 clear hK4; try clear K4
 refine D_seq fun K5 hK5 => ?_
 refine D_seq fun K6 hK6 => ?_
 refine D_le (σ' := mkStI 155 [(2, _), (3, _), (9, _), (10, _), (11, _), (12, _)] [] [] []) (by
  refine Le.mkJ [] [] rfl ?_ ?_ trivial trivial ?_
  ·exact ⟨(iV rfl), (iV rfl), (iS rfl), (iS rfl), (iF rfl), (iV rfl), trivial⟩
  ·exact trivial
  ·kernel_rfl) ?_
 refine D_region ?_
 refine DL_c (op_mv _ (rfl : _ = AV.fp _ _)) ?_
 refine DL_c (op_eqN _ _ (by kernel_rfl) (.inr ⟨_, _, rfl⟩) rfl) ?_
 refine DL_c (op_mv _ (rfl : _ = AV.v (.bool _))) ?_
 refine DL_cy rfl rfl (op_mv _ (rfl : _ = AV.v (.int _ _))) ?_
 refine DL_cy rfl rfl (op_neq (r := false) _ _ rfl rfl rfl) ?_
 refine DL_c (op_pick (b := false) _ _ _ rfl rfl) ?_
 refine DL_nil (hK6 _ ?_)
 clear hK6; try clear K6
 refine D_cF rfl rfl ?_
 refine D_skip (hK5 _ ?_)
 clear hK5; try clear K5
 refine D_seq fun K7 hK7 => ?_
 refine D_region ?_
 refine DL_c (op_mv _ (rfl : _ = AV.sl _ _)) ?_
 refine DL_c (op_build _ inferInstance rfl (by exact (rfl : _ = some [_, _]))) ?_
 refine DL_c (op_box (41, 0) _ rfl rfl) ?_
 refine DL_c (op_as _ (rfl : _ = AV.ptr _ _)) ?_
 refine DL_nil (hK7 _ ?_)
 clear hK7; try clear K7
 refine D_seq fun K8 hK8 => ?_
 refine D_region ?_
 refine DL_c (op_mv _ (rfl : _ = AV.fp _ _)) ?_
 refine DL_c (op_mv _ (rfl : _ = AV.v (.int _ _))) ?_
 refine DL_c (op_mv _ (rfl : _ = AV.ptr _ _)) ?_
 refine DL_c (op_mf _ _ (rfl : _ = [_]) (rfl : _ = [])) ?_
 refine DL_c (op_callP inferInstance [((3, 9), (41, 0)), ((4, 8), (60, 0))] ?_ (hF) ⟨⟨rfl, ⟨_, rfl, .box rfl (lv_cons .sl (lv_cons .v lv_nil))⟩, rfl⟩, trivial⟩ ⟨rfl, rfl, trivial⟩ (by kernel_rfl)) ?_
 ·repeat' (first | exact argsR_nil | refine argsR_cons ?_ ?_ | exact Lv.v | exact Lv.fp | exact lvPr rfl | refine Lv.fn rfl ?_ rfl ?_ | exact lv_nil | refine lv_cons ?_ ?_)
 refine DL_c (op_mv _ (rfl : _ = AV.tup _)) ?_
 refine DL_c (op_ext _ rfl (rfl : _ = some (AV.sl _ _))) ?_
 refine DL_c (op_ext _ rfl (rfl : _ = some (AV.sl _ _))) ?_
 refine DL_c (op_ext _ rfl (rfl : _ = some (AV.v (.int _ _)))) ?_
 refine DL_c (op_as _ (rfl : _ = AV.sl _ _)) ?_
 refine DL_c (op_as _ (rfl : _ = AV.sl _ _)) ?_
 refine DL_c (op_as _ (rfl : _ = AV.v (.int _ _))) ?_
 refine DL_nil (hK8 _ ?_)
 clear hK8; try clear K8
 refine D_seq fun K9 hK9 => ?_
 refine D_seq fun K10 hK10 => ?_
 refine D_le (σ' := mkStI 155 [(2, _), (3, _), (9, _), (10, _), (11, _), (13, _), (16, _)] [((41, 0), _), ((60, 0), _)] [] []) (by
  refine Le.mkJ [] [] rfl ?_ ?_ trivial trivial ?_
  ·exact ⟨(iV rfl), (iV rfl), (iS rfl), (iS rfl), (iF rfl), (iP rfl), (iV rfl), trivial⟩
  ·exact ⟨(obE rfl rfl rfl), (obE rfl rfl rfl), trivial⟩
  ·kernel_rfl) ?_
 refine D_region ?_
 refine DL_c (op_mv _ (rfl : _ = AV.v (.int _ _))) ?_
 refine DL_c (op_lss _ _ rfl rfl rfl) ?_
 refine DL_c (op_mv _ (rfl : _ = AV.v (.bool _))) ?_
 refine DL_caseC (fun hg53 => ?_) (fun hg53 => ?_)
 ·skip
  obtain ⟨e1, _, _, e2⟩ := fA (.inl hg53)
  refine DL_cn rfl rfl (by decide) ?_
  refine DL_cn rfl rfl (by decide) ?_
  refine DL_cn rfl rfl (by decide) ?_
  refine DL_cn rfl rfl (by decide) ?_
  refine DL_c (op_pick _ _ _ rfl (rfl : _ = AV.v (.bool _))) ?_
  refine DL_nil (hK10 _ ?_)
  clear hK10; try clear K10
  refine D_cT rfl rfl ?_
  refine D_seq fun K11 hK11 => ?_
  refine D_region ?_
  refine DL_c (op_mv _ (rfl : _ = AV.v (.int _ _))) ?_
  refine DL_c (op_eql (r := true) _ _ rfl rfl (by rw [beq_iff_eq]; exact e2)) ?_
  refine DL_c (op_mv _ (rfl : _ = AV.v (.bool _))) ?_
  refine DL_cy rfl rfl (op_mv _ (rfl : _ = AV.ptr _ _)) ?_
  refine DL_cy rfl rfl (op_nilp _ rfl rfl) ?_
  refine DL_cy rfl rfl (op_fldP _ inferInstance rfl rfl rfl) ?_
  refine DL_cy rfl rfl (op_ldB _ inferInstance rfl rfl (rfl : _ = some (AV.ref _ _ _))) ?_
  refine DL_cy rfl rfl (op_lenR _ inferInstance rfl rfl) ?_
  refine DL_cy rfl rfl (op_eql (r := true) _ _ rfl rfl (by rw [beq_iff_eq, e1]; rfl)) ?_
  refine DL_c (op_pick _ _ _ rfl (rfl : _ = AV.v (.bool _))) ?_
  refine DL_c (op_mv _ (rfl : _ = AV.v (.bool _))) ?_
  refine DL_cy rfl rfl (op_callH inferInstance (by repeat' (exact argsLv_nil)) (lives33_spec) rfl rfl) ?_
  refine DL_c (op_pick _ _ _ rfl (rfl : _ = AV.v (.bool _))) ?_
  refine DL_c (op_as _ (rfl : _ = AV.v (.bool _))) ?_
  refine DL_nil (hK11 _ ?_)
  clear hK11; try clear K11
  refine D_ret ?_
  refine ret1 (.inr rfl) rfl (.tmp (rfl : _ = AV.v (.bool _))) (Le.out [] [] (lvB ?_) rfl rfl rfl trivial trivial)
  rfl
 ·skip
  refine DL_cy rfl rfl (op_mv _ (rfl : _ = AV.v (.int _ _))) ?_
  refine DL_cy rfl rfl (op_mv _ (rfl : _ = AV.sl _ _)) ?_
  refine DL_cy rfl rfl (op_lenS _ inferInstance rfl) ?_
  refine DL_cy rfl rfl (op_geq _ _ rfl rfl rfl) ?_
  refine DL_c (op_pick _ _ _ rfl (rfl : _ = AV.v (.bool _))) ?_
  refine DL_nil (hK10 _ ?_)
  clear hK10; try clear K10
  refine D_splitC rfl (fun hc58 => ?_) (fun hc58 => ?_)
  ·skip
   obtain ⟨e1, _, _, e2⟩ := fA (.inr hc58)
   refine D_seq fun K12 hK12 => ?_
   refine D_region ?_
   refine DL_c (op_mv _ (rfl : _ = AV.v (.int _ _))) ?_
   refine DL_c (op_eql (r := true) _ _ rfl rfl (by rw [beq_iff_eq]; exact e2)) ?_
   refine DL_c (op_mv _ (rfl : _ = AV.v (.bool _))) ?_
   refine DL_cy rfl rfl (op_mv _ (rfl : _ = AV.ptr _ _)) ?_
   refine DL_cy rfl rfl (op_nilp _ rfl rfl) ?_
   refine DL_cy rfl rfl (op_fldP _ inferInstance rfl rfl rfl) ?_
   refine DL_cy rfl rfl (op_ldB _ inferInstance rfl rfl (rfl : _ = some (AV.ref _ _ _))) ?_
   refine DL_cy rfl rfl (op_lenR _ inferInstance rfl rfl) ?_
   refine DL_cy rfl rfl (op_eql (r := true) _ _ rfl rfl (by rw [beq_iff_eq, e1]; rfl)) ?_
   refine DL_c (op_pick _ _ _ rfl (rfl : _ = AV.v (.bool _))) ?_
   refine DL_c (op_mv _ (rfl : _ = AV.v (.bool _))) ?_
   refine DL_cy rfl rfl (op_callH inferInstance (by repeat' (exact argsLv_nil)) (lives33_spec) rfl rfl) ?_
   refine DL_c (op_pick _ _ _ rfl (rfl : _ = AV.v (.bool _))) ?_
   refine DL_c (op_as _ (rfl : _ = AV.v (.bool _))) ?_
   refine DL_nil (hK12 _ ?_)
   clear hK12; try clear K12
   refine D_ret ?_
   refine ret1 (.inr rfl) rfl (.tmp (rfl : _ = AV.v (.bool _))) (Le.out [] [] (lvB ?_) rfl rfl rfl trivial trivial)
   rfl
  ·skip
   refine D_skip (hK9 _ ?_)
   clear hK9; try clear K9
   refine D_seq fun K13 hK13 => ?_
   refine D_seq fun K14 hK14 => ?_
   refine D_region ?_
   refine DL_c (op_mv _ (rfl : _ = AV.sl _ _)) ?_
   refine DL_c (op_mv _ (rfl : _ = AV.v (.int _ _))) ?_
   refine DL_c (op_ixS _ _ inferInstance rfl rfl (Int.toNat _) (Int.toNat_of_nonneg (by omega)).symm (by omega) (by (simp only [isl_len, bsl_len, psl_len, mrows_len, nsl_len, ws_len, List.length_map, ul_len, psl_len, isl_len, nrows_len, mmap_len, smap_len, dcl_len, blR_len, prL_len, stK_len, inh1_len, st0_len, status32_len]; omega)) (by exact Nat.mul_one _)) ?_
   refine DL_c (op_ldF _ inferInstance rfl (by exact isl_get _ _ (by omega)) rfl) ?_
   refine DL_c (op_neq _ _ rfl rfl rfl) ?_
   refine DL_nil (hK14 _ ?_)
   clear hK14; try clear K14
   refine D_splitC rfl (fun hc76 => ?_) (fun hc76 => ?_)
   ·skip
    obtain ⟨e1, _, _, e2⟩ := fB (by omega) hc76
    refine D_seq fun K15 hK15 => ?_
    refine D_region ?_
    refine DL_c (op_mv _ (rfl : _ = AV.v (.int _ _))) ?_
    refine DL_c (op_eql (r := true) _ _ rfl rfl (by rw [beq_iff_eq]; exact e2)) ?_
    refine DL_c (op_mv _ (rfl : _ = AV.v (.bool _))) ?_
    refine DL_cy rfl rfl (op_mv _ (rfl : _ = AV.ptr _ _)) ?_
    refine DL_cy rfl rfl (op_nilp _ rfl rfl) ?_
    refine DL_cy rfl rfl (op_fldP _ inferInstance rfl rfl rfl) ?_
    refine DL_cy rfl rfl (op_ldB _ inferInstance rfl rfl (rfl : _ = some (AV.ref _ _ _))) ?_
    refine DL_cy rfl rfl (op_lenR _ inferInstance rfl rfl) ?_
    refine DL_cy rfl rfl (op_eql (r := true) _ _ rfl rfl (by rw [beq_iff_eq, e1]; rfl)) ?_
    refine DL_c (op_pick _ _ _ rfl (rfl : _ = AV.v (.bool _))) ?_
    refine DL_c (op_mv _ (rfl : _ = AV.v (.bool _))) ?_
    refine DL_cy rfl rfl (op_callH inferInstance (by repeat' (exact argsLv_nil)) (lives33_spec) rfl rfl) ?_
    refine DL_c (op_pick _ _ _ rfl (rfl : _ = AV.v (.bool _))) ?_
    refine DL_c (op_as _ (rfl : _ = AV.v (.bool _))) ?_
    refine DL_nil (hK15 _ ?_)
    clear hK15; try clear K15
    refine D_ret ?_
    refine ret1 (.inr rfl) rfl (.tmp (rfl : _ = AV.v (.bool _))) (Le.out [] [] (lvB ?_) rfl rfl rfl trivial trivial)
    rfl
   ·skip
    obtain ⟨e1, e2⟩ := fC (by omega) hc76
    refine D_skip (hK13 _ ?_)
    clear hK13; try clear K13
    refine D_seq fun K16 hK16 => ?_
    refine D_seq fun K17 hK17 => ?_
    refine D_region ?_
    refine DL_c (op_mv _ (rfl : _ = AV.v (.int _ _))) ?_
    refine DL_c (op_eql (r := false) _ _ rfl rfl (by rw [beq_eq_false_iff_ne]; exact e1)) ?_
    refine DL_c (op_mv _ (rfl : _ = AV.v (.bool _))) ?_
    refine DL_cy rfl rfl (op_mv _ (rfl : _ = AV.v (.int _ _))) ?_
    refine DL_cy rfl rfl (op_eql (r := false) _ _ rfl rfl (by rw [beq_eq_false_iff_ne]; exact e2)) ?_
    refine DL_c (op_pick (b := false) _ _ _ rfl rfl) ?_
    refine DL_nil (hK17 _ ?_)
    clear hK17; try clear K17
    refine D_cF rfl rfl ?_
    refine D_skip (hK16 _ ?_)
    clear hK16; try clear K16
    refine D_seq fun K18 hK18 => ?_
    refine D_le (σ' := mkStI 155 [(2, _), (3, _), (10, _), (11, _), (13, _), (16, _)] [((41, 0), _), ((60, 0), _)] [] []) (by
     refine Le.mkJ [] [] rfl ?_ ?_ trivial trivial ?_
     ·exact ⟨(iV rfl), (iV rfl), (iS rfl), (iF rfl), (iP rfl), (iV rfl), trivial⟩
     ·exact ⟨(obE rfl rfl rfl), (obE rfl rfl rfl), trivial⟩
     ·kernel_rfl) ?_
    refine D_region ?_
    refine DL_c (op_asN (17, 0) _ 3 1 rfl rfl) ?_
    refine DL_nil (hK18 _ ?_)
    clear hK18; try clear K18
    refine D_seq fun K19 hK19 => ?_
    refine D_seq fun K20 hK20 => ?_
    refine D_region ?_
    refine DL_c (op_as _ (rfl : _ = AV.v (.int _ _))) ?_
    refine DL_nil (hK20 _ ?_)
    clear hK20; try clear K20
    refine D_block ?_
    refine D_loopL (α := Nat) (fun v => v ≤ n) 155 [(2, _), (3, _), (10, _), (11, _), (13, _), (16, _)] [((41, 0), _), ((60, 0), _)] (fun v => [(18, .v (.int .i64 (v : Int))), (17, .ref (17, 0) 0 v)]) (fun v => [((17, 0), .row 3 1 (isl (odds st odd v)))]) [] [] (fun v => n - v) 0 ?_ (by
     refine Le.mkJ [] [] rfl ?_ ?_ trivial trivial ?_
     ·exact ⟨(iV rfl), (iV rfl), (iS rfl), (iF rfl), (iP rfl), (iV rfl), (lvI (by rfl)), (lvRr rfl (by rfl)), trivial⟩
     ·exact ⟨(obE rfl rfl rfl), (obE rfl rfl rfl), (obR rfl rfl rfl (by rfl)), trivial⟩
     ·kernel_rfl) ?_
    ·omega
    intro v hv
    refine D_seq fun K21 hK21 => ?_
    refine D_seq fun K22 hK22 => ?_
    refine D_region ?_
    refine DL_c (op_mv _ (rfl : _ = AV.v (.int _ _))) ?_
    refine DL_c (op_mv _ (rfl : _ = AV.sl _ _)) ?_
    refine DL_c (op_lenS _ inferInstance rfl) ?_
    refine DL_c (op_lss _ _ rfl rfl rfl) ?_
    refine DL_nil (hK22 _ ?_)
    clear hK22; try clear K22
    refine D_splitC rfl (fun hc99 => ?_) (fun hc99 => ?_)
    ·skip
     have hos := odds_succ st odd v
     refine D_skip (hK21 _ ?_)
     clear hK21; try clear K21
     refine D_seq fun K23 hK23 => ?_
     refine D_block ?_
     refine D_seq fun K24 hK24 => ?_
     refine D_region ?_
     refine DL_c (op_mv _ (rfl : _ = AV.sl _ _)) ?_
     refine DL_c (op_mv _ (rfl : _ = AV.v (.int _ _))) ?_
     refine DL_c (op_ixS _ _ inferInstance rfl rfl _ rfl (by omega) (by (simp only [isl_len, bsl_len, psl_len, mrows_len, nsl_len, ws_len, List.length_map, ul_len, psl_len, isl_len, nrows_len, mmap_len, smap_len, dcl_len, blR_len, prL_len, stK_len, inh1_len, st0_len, status32_len]; omega)) (by exact Nat.mul_one _)) ?_
     refine DL_c (op_ldF _ inferInstance rfl (by exact isl_get _ _ (by omega)) rfl) ?_
     refine DL_c (op_eql _ _ rfl rfl rfl) ?_
     refine DL_c (op_mv _ (rfl : _ = AV.v (.bool _))) ?_
     refine DL_caseC (fun hg107 => ?_) (fun hg107 => ?_)
     ·skip
      refine DL_cy rfl rfl (op_mv _ (rfl : _ = AV.v (.int _ _))) ?_
      refine DL_cy rfl rfl (op_neq _ _ rfl rfl rfl) ?_
      refine DL_c (op_pick _ _ _ rfl (rfl : _ = AV.v (.bool _))) ?_
      refine DL_c (op_mv _ (rfl : _ = AV.v (.bool _))) ?_
      refine DL_caseC (fun hg111 => ?_) (fun hg111 => ?_)
      ·skip
       refine DL_cy rfl rfl (op_mv _ (rfl : _ = AV.v (.int _ _))) ?_
       refine DL_cy rfl rfl (op_neq _ _ rfl rfl rfl) ?_
       refine DL_c (op_pick _ _ _ rfl (rfl : _ = AV.v (.bool _))) ?_
       refine DL_nil (hK24 _ ?_)
       clear hK24; try clear K24
       refine D_splitC rfl (fun hc114 => ?_) (fun hc114 => ?_)
       ·skip
        have hx : (if st.getD v 0 = 2 ∧ odd ≠ 0 ∧ odd ≠ 1 then odd else st.getD v 0) = odd := if_pos ⟨hg107, hg111, hc114⟩
        refine D_le (σ' := mkStI 155 [(2, _), (3, _), (10, _), (11, _), (13, _), (16, _), (17, _), (18, _)] [((41, 0), _), ((60, 0), _), ((17, 0), _)] [] []) (by
         refine Le.mkJ [] [] rfl ?_ ?_ trivial trivial ?_
         ·exact ⟨(iV rfl), (iV rfl), (iS rfl), (iF rfl), (iP rfl), (iV rfl), (iR rfl), (iV rfl), trivial⟩
         ·exact ⟨(obE rfl rfl rfl), (obE rfl rfl rfl), (obE rfl rfl rfl), trivial⟩
         ·kernel_rfl) ?_
        refine D_region ?_
        refine DL_c (op_mv _ (rfl : _ = AV.ref _ _ _)) ?_
        refine DL_c (op_mv _ (rfl : _ = AV.v (.int _ _))) ?_
        refine DL_c (op_bsF _ _ inferInstance rfl (by rfl) (by simp <;> rfl) (by decide) rfl) ?_
        refine DL_c (op_ap (118, 0) _ _ inferInstance rfl rfl (by (simp; done)) (by (refine .sl ?_; (simp [isl]; done))) (by omega) rfl (rfl) (rfl)) ?_
        refine DL_c (op_as _ (rfl : _ = AV.ref _ _ _)) ?_
        refine DL_nil (hK23 _ ?_)
        clear hK23; try clear K23
        refine D_region ?_
        refine DL_c (op_mv _ (rfl : _ = AV.v (.int _ _))) ?_
        refine DL_c (op_add _ _ rfl rfl (i64w (by omega))) ?_
        refine DL_c (op_as _ (rfl : _ = AV.v (.int _ _))) ?_
        refine DL_nil ?_
        refine ⟨v + 1, ?_, ?_, ?_⟩
        ·omega
        ·skip
         refine Le.mkJ [((17, 0), (118, 0))] [] rfl ?_ ?_ trivial trivial ?_
         ·exact ⟨(by repeat' (exact Lv.v)), (by repeat' (exact Lv.v)), (by repeat' (exact Lv.sl)), (by repeat' (exact Lv.fp)), (lvPr (id := (41, 0)) rfl), (by repeat' (exact Lv.v)), (lvI (by rfl)), (lvRr rfl (by rfl)), trivial⟩
         ·exact ⟨(obB rfl rfl rfl rfl (by repeat' (first | exact Lv.sl | exact lvRr (id := (60, 0)) rfl rfl | exact lv_nil | refine lv_cons ?_ ?_))), (obR rfl rfl rfl rfl), (obR rfl rfl rfl (by rw [hos, hx]; simp [isl])), trivial⟩
         ·kernel_rfl
        ·omega
       ·skip
        have hx : (if st.getD v 0 = 2 ∧ odd ≠ 0 ∧ odd ≠ 1 then odd else st.getD v 0) = st.getD v 0 := if_neg (fun h => h.2.2 hc114)
        refine D_le (σ' := mkStI 155 [(2, _), (3, _), (10, _), (11, _), (13, _), (16, _), (17, _), (18, _)] [((41, 0), _), ((60, 0), _), ((17, 0), _)] [] []) (by
         refine Le.mkJ [] [] rfl ?_ ?_ trivial trivial ?_
         ·exact ⟨(iV rfl), (iV rfl), (iS rfl), (iF rfl), (iP rfl), (iV rfl), (iR rfl), (iV rfl), trivial⟩
         ·exact ⟨(obE rfl rfl rfl), (obE rfl rfl rfl), (obE rfl rfl rfl), trivial⟩
         ·kernel_rfl) ?_
        refine D_region ?_
        refine DL_c (op_mv _ (rfl : _ = AV.ref _ _ _)) ?_
        refine DL_c (op_mv _ (rfl : _ = AV.sl _ _)) ?_
        refine DL_c (op_mv _ (rfl : _ = AV.v (.int _ _))) ?_
        refine DL_c (op_ixS _ _ inferInstance rfl rfl _ rfl (by omega) (by (simp only [isl_len, bsl_len, psl_len, mrows_len, nsl_len, ws_len, List.length_map, ul_len, psl_len, isl_len, nrows_len, mmap_len, smap_len, dcl_len, blR_len, prL_len, stK_len, inh1_len, st0_len, status32_len]; omega)) (by exact Nat.mul_one _)) ?_
        refine DL_c (op_ldF _ inferInstance rfl (by exact isl_get _ _ (by omega)) rfl) ?_
        refine DL_c (op_bsF _ _ inferInstance rfl (by rfl) (by simp <;> rfl) (by decide) rfl) ?_
        refine DL_c (op_ap (125, 0) _ _ inferInstance rfl rfl (by (simp; done)) (by (refine .sl ?_; (simp [isl]; done))) (by omega) rfl (rfl) (rfl)) ?_
        refine DL_c (op_as _ (rfl : _ = AV.ref _ _ _)) ?_
        refine DL_nil (hK23 _ ?_)
        clear hK23; try clear K23
        refine D_region ?_
        refine DL_c (op_mv _ (rfl : _ = AV.v (.int _ _))) ?_
        refine DL_c (op_add _ _ rfl rfl (i64w (by omega))) ?_
        refine DL_c (op_as _ (rfl : _ = AV.v (.int _ _))) ?_
        refine DL_nil ?_
        refine ⟨v + 1, ?_, ?_, ?_⟩
        ·omega
        ·skip
         refine Le.mkJ [((17, 0), (125, 0))] [] rfl ?_ ?_ trivial trivial ?_
         ·exact ⟨(by repeat' (exact Lv.v)), (by repeat' (exact Lv.v)), (by repeat' (exact Lv.sl)), (by repeat' (exact Lv.fp)), (lvPr (id := (41, 0)) rfl), (by repeat' (exact Lv.v)), (lvI (by rfl)), (lvRr rfl (by rfl)), trivial⟩
         ·exact ⟨(obB rfl rfl rfl rfl (by repeat' (first | exact Lv.sl | exact lvRr (id := (60, 0)) rfl rfl | exact lv_nil | refine lv_cons ?_ ?_))), (obR rfl rfl rfl rfl), (obR rfl rfl rfl (by rw [hos, hx]; simp [isl])), trivial⟩
         ·kernel_rfl
        ·omega
      ·skip
       have hx : (if st.getD v 0 = 2 ∧ odd ≠ 0 ∧ odd ≠ 1 then odd else st.getD v 0) = st.getD v 0 := if_neg (fun h => h.2.1 hg111)
       refine DL_cn rfl rfl (by decide) ?_
       refine DL_cn rfl rfl (by decide) ?_
       refine DL_c (op_pick _ _ _ rfl (rfl : _ = AV.v (.bool _))) ?_
       refine DL_nil (hK24 _ ?_)
       clear hK24; try clear K24
       refine D_cF rfl rfl ?_
       refine D_le (σ' := mkStI 155 [(2, _), (3, _), (10, _), (11, _), (13, _), (16, _), (17, _), (18, _)] [((41, 0), _), ((60, 0), _), ((17, 0), _)] [] []) (by
        refine Le.mkJ [] [] rfl ?_ ?_ trivial trivial ?_
        ·exact ⟨(iV rfl), (iV rfl), (iS rfl), (iF rfl), (iP rfl), (iV rfl), (iR rfl), (iV rfl), trivial⟩
        ·exact ⟨(obE rfl rfl rfl), (obE rfl rfl rfl), (obE rfl rfl rfl), trivial⟩
        ·kernel_rfl) ?_
       refine D_region ?_
       refine DL_c (op_mv _ (rfl : _ = AV.ref _ _ _)) ?_
       refine DL_c (op_mv _ (rfl : _ = AV.sl _ _)) ?_
       refine DL_c (op_mv _ (rfl : _ = AV.v (.int _ _))) ?_
       refine DL_c (op_ixS _ _ inferInstance rfl rfl _ rfl (by omega) (by (simp only [isl_len, bsl_len, psl_len, mrows_len, nsl_len, ws_len, List.length_map, ul_len, psl_len, isl_len, nrows_len, mmap_len, smap_len, dcl_len, blR_len, prL_len, stK_len, inh1_len, st0_len, status32_len]; omega)) (by exact Nat.mul_one _)) ?_
       refine DL_c (op_ldF _ inferInstance rfl (by exact isl_get _ _ (by omega)) rfl) ?_
       refine DL_c (op_bsF _ _ inferInstance rfl (by rfl) (by simp <;> rfl) (by decide) rfl) ?_
       refine DL_c (op_ap (125, 0) _ _ inferInstance rfl rfl (by (simp; done)) (by (refine .sl ?_; (simp [isl]; done))) (by omega) rfl (rfl) (rfl)) ?_
       refine DL_c (op_as _ (rfl : _ = AV.ref _ _ _)) ?_
       refine DL_nil (hK23 _ ?_)
       clear hK23; try clear K23
       refine D_region ?_
       refine DL_c (op_mv _ (rfl : _ = AV.v (.int _ _))) ?_
       refine DL_c (op_add _ _ rfl rfl (i64w (by omega))) ?_
       refine DL_c (op_as _ (rfl : _ = AV.v (.int _ _))) ?_
       refine DL_nil ?_
       refine ⟨v + 1, ?_, ?_, ?_⟩
       ·omega
       ·skip
        refine Le.mkJ [((17, 0), (125, 0))] [] rfl ?_ ?_ trivial trivial ?_
        ·exact ⟨(by repeat' (exact Lv.v)), (by repeat' (exact Lv.v)), (by repeat' (exact Lv.sl)), (by repeat' (exact Lv.fp)), (lvPr (id := (41, 0)) rfl), (by repeat' (exact Lv.v)), (lvI (by rfl)), (lvRr rfl (by rfl)), trivial⟩
        ·exact ⟨(obB rfl rfl rfl rfl (by repeat' (first | exact Lv.sl | exact lvRr (id := (60, 0)) rfl rfl | exact lv_nil | refine lv_cons ?_ ?_))), (obR rfl rfl rfl rfl), (obR rfl rfl rfl (by rw [hos, hx]; simp [isl])), trivial⟩
        ·kernel_rfl
       ·omega
     ·skip
      have hx : (if st.getD v 0 = 2 ∧ odd ≠ 0 ∧ odd ≠ 1 then odd else st.getD v 0) = st.getD v 0 := if_neg (fun h => hg107 h.1)
      refine DL_cn rfl rfl (by decide) ?_
      refine DL_cn rfl rfl (by decide) ?_
      refine DL_c (op_pick _ _ _ rfl (rfl : _ = AV.v (.bool _))) ?_
      refine DL_c (op_mv _ (rfl : _ = AV.v (.bool _))) ?_
      refine DL_cn rfl rfl (by decide) ?_
      refine DL_cn rfl rfl (by decide) ?_
      refine DL_c (op_pick _ _ _ rfl (rfl : _ = AV.v (.bool _))) ?_
      refine DL_nil (hK24 _ ?_)
      clear hK24; try clear K24
      refine D_cF rfl rfl ?_
      refine D_le (σ' := mkStI 155 [(2, _), (3, _), (10, _), (11, _), (13, _), (16, _), (17, _), (18, _)] [((41, 0), _), ((60, 0), _), ((17, 0), _)] [] []) (by
       refine Le.mkJ [] [] rfl ?_ ?_ trivial trivial ?_
       ·exact ⟨(iV rfl), (iV rfl), (iS rfl), (iF rfl), (iP rfl), (iV rfl), (iR rfl), (iV rfl), trivial⟩
       ·exact ⟨(obE rfl rfl rfl), (obE rfl rfl rfl), (obE rfl rfl rfl), trivial⟩
       ·kernel_rfl) ?_
      refine D_region ?_
      refine DL_c (op_mv _ (rfl : _ = AV.ref _ _ _)) ?_
      refine DL_c (op_mv _ (rfl : _ = AV.sl _ _)) ?_
      refine DL_c (op_mv _ (rfl : _ = AV.v (.int _ _))) ?_
      refine DL_c (op_ixS _ _ inferInstance rfl rfl _ rfl (by omega) (by (simp only [isl_len, bsl_len, psl_len, mrows_len, nsl_len, ws_len, List.length_map, ul_len, psl_len, isl_len, nrows_len, mmap_len, smap_len, dcl_len, blR_len, prL_len, stK_len, inh1_len, st0_len, status32_len]; omega)) (by exact Nat.mul_one _)) ?_
      refine DL_c (op_ldF _ inferInstance rfl (by exact isl_get _ _ (by omega)) rfl) ?_
      refine DL_c (op_bsF _ _ inferInstance rfl (by rfl) (by simp <;> rfl) (by decide) rfl) ?_
      refine DL_c (op_ap (125, 0) _ _ inferInstance rfl rfl (by (simp; done)) (by (refine .sl ?_; (simp [isl]; done))) (by omega) rfl (rfl) (rfl)) ?_
      refine DL_c (op_as _ (rfl : _ = AV.ref _ _ _)) ?_
      refine DL_nil (hK23 _ ?_)
      clear hK23; try clear K23
      refine D_region ?_
      refine DL_c (op_mv _ (rfl : _ = AV.v (.int _ _))) ?_
      refine DL_c (op_add _ _ rfl rfl (i64w (by omega))) ?_
      refine DL_c (op_as _ (rfl : _ = AV.v (.int _ _))) ?_
      refine DL_nil ?_
      refine ⟨v + 1, ?_, ?_, ?_⟩
      ·omega
      ·skip
       refine Le.mkJ [((17, 0), (125, 0))] [] rfl ?_ ?_ trivial trivial ?_
       ·exact ⟨(by repeat' (exact Lv.v)), (by repeat' (exact Lv.v)), (by repeat' (exact Lv.sl)), (by repeat' (exact Lv.fp)), (lvPr (id := (41, 0)) rfl), (by repeat' (exact Lv.v)), (lvI (by rfl)), (lvRr rfl (by rfl)), trivial⟩
       ·exact ⟨(obB rfl rfl rfl rfl (by repeat' (first | exact Lv.sl | exact lvRr (id := (60, 0)) rfl rfl | exact lv_nil | refine lv_cons ?_ ?_))), (obR rfl rfl rfl rfl), (obR rfl rfl rfl (by rw [hos, hx]; simp [isl])), trivial⟩
       ·kernel_rfl
      ·omega
    ·skip
     obtain rfl : v = n := by omega
     refine D_exit ?_
     refine id (hK19 _ ?_)
     clear hK19; try clear K19
     refine D_seq fun K25 hK25 => ?_
     refine D_le (Le.frzS 17 (ys := isl (odds st odd v)) rfl rfl rfl (by rw [List.drop_zero, Nat.mul_one, List.take_of_length_le (by simp)]) (by simp)) ?_
     refine D_region ?_
     refine DL_c (op_mv _ (rfl : _ = AV.sl _ _)) ?_
     refine DL_c (op_build _ inferInstance rfl (by exact (rfl : _ = some [_, _]))) ?_
     refine DL_c (op_box (128, 0) _ rfl rfl) ?_
     refine DL_c (op_as _ (rfl : _ = AV.ptr _ _)) ?_
     refine DL_nil (hK25 _ ?_)
     clear hK25; try clear K25
     refine D_seq fun K26 hK26 => ?_
     refine D_region ?_
     refine DL_c (op_mv _ (rfl : _ = AV.fp _ _)) ?_
     refine DL_c (op_mv _ (rfl : _ = AV.v (.int _ _))) ?_
     refine DL_c (op_mv _ (rfl : _ = AV.ptr _ _)) ?_
     refine DL_c (op_mf _ _ (rfl : _ = [_]) (rfl : _ = [])) ?_
     refine DL_c (op_callP inferInstance [((3, 9), (128, 0)), ((4, 8), (62, 0))] ?_ (hF2) ⟨⟨rfl, ⟨_, rfl, .box rfl (lv_cons .sl (lv_cons .v lv_nil))⟩, rfl⟩, trivial⟩ ⟨rfl, rfl, trivial⟩ (by kernel_rfl)) ?_
     ·repeat' (first | exact argsR_nil | refine argsR_cons ?_ ?_ | exact Lv.v | exact Lv.fp | exact lvPr rfl | refine Lv.fn rfl ?_ rfl ?_ | exact lv_nil | refine lv_cons ?_ ?_)
     refine DL_c (op_mv _ (rfl : _ = AV.tup _)) ?_
     refine DL_c (op_ext _ rfl (rfl : _ = some (AV.sl _ _))) ?_
     refine DL_c (op_ext _ rfl (rfl : _ = some (AV.sl _ _))) ?_
     refine DL_c (op_ext _ rfl (rfl : _ = some (AV.v (.int _ _)))) ?_
     refine DL_c (op_as _ (rfl : _ = AV.sl _ _)) ?_
     refine DL_c (op_as _ (rfl : _ = AV.sl _ _)) ?_
     refine DL_c (op_as _ (rfl : _ = AV.v (.int _ _))) ?_
     refine DL_nil (hK26 _ ?_)
     clear hK26; try clear K26
     refine D_seq fun K27 hK27 => ?_
     refine D_le (σ' := mkStI 155 [(13, _), (16, _), (19, _), (22, _)] [((41, 0), _), ((60, 0), _), ((128, 0), _), ((62, 0), _)] [] []) (by
      refine Le.mkJ [] [] rfl ?_ ?_ trivial trivial ?_
      ·exact ⟨(iP rfl), (iV rfl), (iP rfl), (iV rfl), trivial⟩
      ·exact ⟨(obE rfl rfl rfl), (obE rfl rfl rfl), (obE rfl rfl rfl), (obE rfl rfl rfl), trivial⟩
      ·kernel_rfl) ?_
     refine D_anyL 18 [138, 139, 140, 141, 142, 143, 144, 145, 146, 147, 148, 149, 150, 151, 152, 153, 154, 8] [] (by kernel_rfl) (by kernel_rfl) rfl (nodupO_iff rfl) (rfl : _ = [_, _, _, _, _, _, _, _, _, _, _, _, _, _, _, _, _, _]) (rfl : _ = []) ?_
     refine any_c (_, []) (fun τ => op_mv _ (rfl : _ = AV.v (.int _ _))) ?_
     refine any_n (rfl : _ = [_]) ?_
     refine any_c (_, []) (fun τ => op_mv _ (rfl : _ = AV.v (.int _ _))) ?_
     refine any_n (rfl : _ = [_, _]) ?_
     refine any_c (_, []) (fun τ => op_eql (r := true) _ _ rfl rfl (by exact beq_self_eq_true _)) ?_
     refine any_n (rfl : _ = [_, _, _]) ?_
     refine any_c (_, []) (fun τ => op_mv _ (rfl : _ = AV.v (.bool _))) ?_
     refine any_n (rfl : _ = [_, _, _, _]) ?_
     refine any_cy (_, []) rfl (fun τ => rfl) (fun τ => op_mv _ (rfl : _ = AV.ptr _ _)) ?_
     refine any_n (rfl : _ = [_, _, _, _, _]) ?_
     refine any_cy (_, []) rfl (fun τ => rfl) (fun τ => op_nilp _ rfl rfl) ?_
     refine any_n (rfl : _ = [_, _, _, _, _, _]) ?_
     refine any_cy (_, []) rfl (fun τ => rfl) (fun τ => op_fldP _ inferInstance rfl rfl rfl) ?_
     refine any_n (rfl : _ = [_, _, _, _, _, _, _]) ?_
     refine any_cy (_, []) rfl (fun τ => rfl) (fun τ => op_ldB _ inferInstance rfl rfl (rfl : _ = some (AV.ref _ _ _))) ?_
     refine any_n (rfl : _ = [_, _, _, _, _, _, _, _]) ?_
     refine any_cy (_, []) rfl (fun τ => rfl) (fun τ => op_mv _ (rfl : _ = AV.ptr _ _)) ?_
     refine any_n (rfl : _ = [_, _, _, _, _, _, _, _, _]) ?_
     refine any_cy (_, []) rfl (fun τ => rfl) (fun τ => op_nilp _ rfl rfl) ?_
     refine any_n (rfl : _ = [_, _, _, _, _, _, _, _, _, _]) ?_
     refine any_cy (_, []) rfl (fun τ => rfl) (fun τ => op_fldP _ inferInstance rfl rfl rfl) ?_
     refine any_n (rfl : _ = [_, _, _, _, _, _, _, _, _, _, _]) ?_
     refine any_cy (_, []) rfl (fun τ => rfl) (fun τ => op_ldB _ inferInstance rfl rfl (rfl : _ = some (AV.ref _ _ _))) ?_
     refine any_n (rfl : _ = [_, _, _, _, _, _, _, _, _, _, _, _]) ?_
     refine any_cy (_, []) rfl (fun τ => rfl) (fun τ => (op_callBH inferInstance (by repeat' (first | exact argsLv_nil | refine argsLv_cons ?_ ?_ | (refine frz0 rfl rfl ?_ rfl; (simp; done)))) (hsm) rfl)) ?_
     refine any_n (rfl : _ = [_, _, _, _, _, _, _, _, _, _, _, _, _]) ?_
     refine any_c (_, []) (fun τ => op_pick _ _ _ rfl (rfl : _ = AV.v (.bool _))) ?_
     refine any_n (rfl : _ = [_, _, _, _, _, _, _, _, _, _, _, _, _, _]) ?_
     refine any_c (_, []) (fun τ => op_mv _ (rfl : _ = AV.v (.bool _))) ?_
     refine any_n (rfl : _ = [_, _, _, _, _, _, _, _, _, _, _, _, _, _, _]) ?_
     refine any_cy (_, []) rfl (fun τ => rfl) (fun τ => (op_callH inferInstance (by repeat' (exact argsLv_nil)) (lives33_spec) rfl rfl)) ?_
     refine any_n (rfl : _ = [_, _, _, _, _, _, _, _, _, _, _, _, _, _, _, _]) ?_
     refine any_c (_, []) (fun τ => op_pick _ _ _ rfl (rfl : _ = AV.v (.bool _))) ?_
     refine any_n (rfl : _ = [_, _, _, _, _, _, _, _, _, _, _, _, _, _, _, _, _]) ?_
     refine any_c (_, []) (fun τ => op_as _ (rfl : _ = AV.v (.bool _))) ?_
     refine any_n (rfl : _ = [_, _, _, _, _, _, _, _, _, _, _, _, _, _, _, _, _, _]) ?_
     refine any_end ⟨rfl, ?_⟩
     refine DL_nil (hK27 _ ?_)
     clear hK27; try clear K27
     refine D_ret ?_
     refine ret1 (.inr rfl) rfl (.tmp (rfl : _ = AV.v (.bool _))) (Le.out [] [] (lvB ?_) rfl rfl rfl trivial trivial)
     rfl
end Go.Proofs.Ytkbkmngbenohkaa
