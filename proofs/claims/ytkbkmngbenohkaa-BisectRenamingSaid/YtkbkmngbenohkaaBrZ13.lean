/- Part 13 of the texts that the walk leans on: the machine, the walks, the plain laws. -/
import Derived.Test.YtkbkmngbenohkaaBrZ12
set_option linter.unusedSimpArgs false
set_option linter.unusedVariables false
namespace Go.Proofs.Ytkbkmngbenohkaa
open Go.RowKit

/-- The search and the variable that holds it. -/
abbrev SS6 (n : Nat) (P A : List Nat) (h : Nat) (sc : List Nat) (st : List Int) (ord : List Nat) : List (Oid × Cells) := SSL n P A h sc st ord ++ [((1, 0), .box 133 [.ptr (0, 9) 0])]
abbrev I6 : List Oid := [(0, 9), (1, 9), (2, 9), (3, 9), (4, 9), (1, 0)]
abbrev I7 : List Oid := [(0, 9), (1, 9), (2, 9), (3, 9), (4, 9), (1, 0), (20, 9)]
abbrev I78 : List Oid := [(0, 9), (1, 9), (2, 9), (3, 9), (4, 9), (1, 0), (0, 8)]
section
variable (f : FuncId) (C : Cbl Try.prog f) (n : Nat) (P A : List Nat) (h : Nat) (sc : List Nat) (st : List Int) (ord : List Nat) (xs ys : List PV) (m : Nat) (l : List Nat) (hm : l.length = m) (h1 : m ≤ 1000000) (p : Nat → Bool)
  (hp : ∀ x : Nat, Spec Try.prog f (inStI (.v (.int .i64 (x : Int)) :: [.ptr (1, 0) 0, .fp 0 xs, .fp 0 ys]) (SS6 n P A h sc st ord)) (outStI (.v (.bool (p x))) (SS6 n P A h sc st ord) I6 I6))
include C hm h1 hp
theorem idxO : Spec Try.prog 120 (inStI [.ref (20, 9) 0 m, .fn (.func f) [] [.ptr (1, 0) 0, .fp 0 xs, .fp 0 ys]] (SS6 n P A h sc st ord ++ [((20, 9), .row 3 1 (nsl l))]))
  (outStI (.v (.int .i64 (firstI (fun x => p x.toNat) (l.map fun (x : Nat) => (x : Int))))) (SS6 n P A h sc st ord ++ [((20, 9), .row 3 1 (nsl l))]) I7 I7) := by
 have hgn := getN l
 refine Spec.ofNI Try.func120 rfl Try.ntmps120 rfl ?_
 refine D_seq fun K1 hK1 => ?_
 refine D_region ?_
 refine DL_c (op_as _ (rfl : _ = AV.v (.int _ _))) ?_
 refine DL_nil (hK1 _ ?_)
 clear hK1; try clear K1
 refine D_seq fun K2 hK2 => ?_
 refine D_seq fun K3 hK3 => ?_
 refine D_region ?_
 refine DL_c (op_mv _ (rfl : _ = AV.ref _ _ _)) ?_
 refine DL_c (op_lenR _ inferInstance rfl rfl) ?_
 refine DL_c (op_mv _ (rfl : _ = AV.v (.int _ _))) ?_
 refine DL_nil (hK3 _ ?_)
 clear hK3; try clear K3
 refine D_block ?_
 refine D_loopL (α := Nat) (fun i => i ≤ m ∧ ∀ j, j < i → p (l.getD j 0) = false) 19 [(0, _), (1, _), (7, _)] [((0, 9), _), ((1, 9), _), ((2, 9), _), ((3, 9), _), ((4, 9), _), ((1, 0), _), ((20, 9), _)] (fun i => [(8, .v (.int .i64 (i : Int)))]) (fun i => []) [(0, 9), (1, 9), (2, 9), (3, 9), (4, 9), (1, 0), (20, 9)] [(0, 9), (1, 9), (2, 9), (3, 9), (4, 9), (1, 0), (20, 9)] (fun i => m - i) 0 ?_ (by
  refine Le.mkJ [] [] rfl ?_ ?_ trivial ⟨rfl, rfl, rfl, rfl, rfl, rfl, rfl, trivial⟩ ?_
  ·exact ⟨(iR rfl), (iN rfl), (iV rfl), (lvI (by rfl)), trivial⟩
  ·exact ⟨(obE rfl rfl rfl), (obE rfl rfl rfl), (obE rfl rfl rfl), (obE rfl rfl rfl), (obE rfl rfl rfl), (obE rfl rfl rfl), (obE rfl rfl rfl), trivial⟩
  ·kernel_rfl) ?_
 ·exact ⟨by omega, fun j hj => by omega⟩
 intro i hi
 obtain ⟨hi, hno⟩ := hi
 refine D_seq fun K4 hK4 => ?_
 refine D_region ?_
 refine DL_c (op_lss _ _ rfl rfl rfl) ?_
 refine DL_nil (hK4 _ ?_)
 clear hK4; try clear K4
 refine D_seq fun K5 hK5 => ?_
 refine D_splitC rfl (fun hc9 => ?_) (fun hc9 => ?_)
 ·skip
  refine D_skip (hK5 _ ?_)
  clear hK5; try clear K5
  refine D_seq fun K6 hK6 => ?_
  refine D_block ?_
  refine D_seq fun K7 hK7 => ?_
  refine D_region ?_
  refine DL_c (op_mv _ (rfl : _ = AV.v (.int _ _))) ?_
  refine DL_c (op_as _ (rfl : _ = AV.v (.int _ _))) ?_
  refine DL_nil (hK7 _ ?_)
  clear hK7; try clear K7
  refine D_seq fun K8 hK8 => ?_
  refine D_region ?_
  refine DL_c (op_mv _ (rfl : _ = AV.fn _ _ _)) ?_
  refine DL_c (op_mv _ (rfl : _ = AV.ref _ _ _)) ?_
  refine DL_c (op_mv _ (rfl : _ = AV.v (.int _ _))) ?_
  refine DL_c (op_ixR _ _ inferInstance rfl rfl rfl _ rfl (by omega) (by exact (Nat.zero_add _).trans (Nat.mul_one _))) ?_
  refine DL_c (op_ldR _ inferInstance rfl rfl (by exact nsl_get _ _ (by omega)) rfl) ?_
  refine DL_c (op_callK0V rfl inferInstance _ _ (by repeat' (first | exact argsR_nil | refine argsR_cons ?_ ?_ | exact Lv.v | exact Lv.fp | exact lvPr rfl)) (hp (l.getD i 0)) ⟨rfl, rfl, rfl, rfl, rfl, rfl, trivial⟩ rfl (by kernel_rfl) (by simp)) ?_
  refine DL_nil (hK8 _ ?_)
  clear hK8; try clear K8
  refine D_splitC rfl (fun hc16 => ?_) (fun hc16 => ?_)
  ·skip
   refine D_seq fun K9 hK9 => ?_
   refine D_region ?_
   refine DL_c (op_mv _ (rfl : _ = AV.v (.int _ _))) ?_
   refine DL_c (op_as _ (rfl : _ = AV.v (.int _ _))) ?_
   refine DL_nil (hK9 _ ?_)
   clear hK9; try clear K9
   refine D_ret ?_
   exact ret1 (.inr rfl) rfl (.tmp (rfl : _ = AV.v (.int _ _))) (Le.outI [] [] (lvI (firstI_at (by simp; omega) (fun j hj => by rw [hgn]; exact hno j hj) (by rw [hgn]; exact hc16))) rfl rfl rfl trivial ⟨⟨rfl, ⟨_, rfl, lvO_id _⟩, rfl⟩, ⟨rfl, ⟨_, rfl, lvO_id _⟩, rfl⟩, ⟨rfl, ⟨_, rfl, lvO_id _⟩, rfl⟩, ⟨rfl, ⟨_, rfl, lvO_id _⟩, rfl⟩, ⟨rfl, ⟨_, rfl, lvO_id _⟩, rfl⟩, ⟨rfl, ⟨_, rfl, lvO_id _⟩, rfl⟩, ⟨rfl, ⟨_, rfl, lvO_id _⟩, rfl⟩, trivial⟩ ⟨rfl, rfl, rfl, rfl, rfl, rfl, rfl, trivial⟩ rfl)
  ·skip
   refine D_skip (hK6 _ ?_)
   clear hK6; try clear K6
   refine D_region ?_
   refine DL_c (op_add _ _ rfl rfl (i64w (by omega))) ?_
   refine DL_c (op_mv _ (rfl : _ = AV.v (.int _ _))) ?_
   refine DL_nil ?_
   refine ⟨i + 1, ?_, ?_, ?_⟩
   ·exact ⟨by omega, all_succ hno hc16⟩
   ·skip
    refine Le.mkJ [] [] rfl ?_ ?_ trivial ⟨rfl, rfl, rfl, rfl, rfl, rfl, rfl, trivial⟩ ?_
    ·exact ⟨(iR rfl), (iN rfl), (iV rfl), (lvI (by rfl)), trivial⟩
    ·exact ⟨(obE rfl rfl rfl), (obE rfl rfl rfl), (obE rfl rfl rfl), (obE rfl rfl rfl), (obE rfl rfl rfl), (obE rfl rfl rfl), (obE rfl rfl rfl), trivial⟩
    ·kernel_rfl
   ·omega
 ·skip
  refine D_exit ?_
  refine id (hK2 _ ?_)
  clear hK2; try clear K2
  refine D_seq fun K10 hK10 => ?_
  refine D_region ?_
  refine DL_c (op_as _ (rfl : _ = AV.v (.int _ _))) ?_
  refine DL_nil (hK10 _ ?_)
  clear hK10; try clear K10
  refine D_ret ?_
  exact ret1 (.inr rfl) rfl (.tmp (rfl : _ = AV.v (.int _ _))) (Le.outI [] [] (lvI (firstI_none fun j hj => by rw [hgn]; exact hno j (by simp at hj; omega))) rfl rfl rfl trivial ⟨⟨rfl, ⟨_, rfl, lvO_id _⟩, rfl⟩, ⟨rfl, ⟨_, rfl, lvO_id _⟩, rfl⟩, ⟨rfl, ⟨_, rfl, lvO_id _⟩, rfl⟩, ⟨rfl, ⟨_, rfl, lvO_id _⟩, rfl⟩, ⟨rfl, ⟨_, rfl, lvO_id _⟩, rfl⟩, ⟨rfl, ⟨_, rfl, lvO_id _⟩, rfl⟩, ⟨rfl, ⟨_, rfl, lvO_id _⟩, rfl⟩, trivial⟩ ⟨rfl, rfl, rfl, rfl, rfl, rfl, rfl, trivial⟩ rfl)
theorem delO_none (h0 : ∀ j, j < l.length → p (l.getD j 0) = false) : Spec Try.prog 130 (inStI [.ref (20, 9) 0 m, .fn (.func f) [] [.ptr (1, 0) 0, .fp 0 xs, .fp 0 ys]] (SS6 n P A h sc st ord ++ [((20, 9), .row 3 1 (nsl l))]))
  (outStI (.ref (0, 8) 0 m) (SS6 n P A h sc st ord ++ [((0, 8), .row 3 1 (nsl l))]) I78 I6) := by
 have hix := idxO f C n P A h sc st ord xs ys m l hm h1 p hp
 rw [firstI_none fun j hj => by rw [getN]; exact h0 j (by simpa using hj)] at hix
 refine Spec.ofNI Try.func130 rfl Try.ntmps130 rfl ?_
 refine D_seq fun K1 hK1 => ?_
 refine D_region ?_
 refine DL_c (op_as _ (rfl : _ = AV.v (.slice _ _ _))) ?_
 refine DL_nil (hK1 _ ?_)
 clear hK1; try clear K1
 refine D_seq fun K2 hK2 => ?_
 refine D_region ?_
 refine DL_c (op_mv _ (rfl : _ = AV.ref _ _ _)) ?_
 refine DL_c (op_mv _ (rfl : _ = AV.fn _ _ _)) ?_
 refine DL_c (op_callK0 inferInstance _ _ (by repeat' (first | exact argsR_nil | refine argsR_cons ?_ ?_ | exact Lv.fp | exact lvRr rfl rfl | exact lvPr rfl | refine Lv.fn rfl ?_ rfl ?_ | exact lv_nil | refine lv_cons ?_ ?_)) (hix) ⟨rfl, rfl, rfl, rfl, rfl, rfl, rfl, trivial⟩ rfl (by kernel_rfl) (by simp)) ?_
 refine DL_c (op_as _ (rfl : _ = AV.v (.int _ _))) ?_
 refine DL_nil (hK2 _ ?_)
 clear hK2; try clear K2
 refine D_seq fun K3 hK3 => ?_
 refine D_seq fun K4 hK4 => ?_
 refine D_region ?_
 refine DL_c (op_mv _ (rfl : _ = AV.v (.int _ _))) ?_
 refine DL_c (op_eql _ _ rfl rfl rfl) ?_
 refine DL_nil (hK4 _ ?_)
 clear hK4; try clear K4
 refine D_splitC rfl (fun hc12 => ?_) (fun hc12 => ?_)
 ·skip
  refine D_seq fun K5 hK5 => ?_
  refine D_region ?_
  refine DL_c (op_mv _ (rfl : _ = AV.ref _ _ _)) ?_
  refine DL_c (op_as _ (rfl : _ = AV.ref _ _ _)) ?_
  refine DL_nil (hK5 _ ?_)
  clear hK5; try clear K5
  refine D_ret ?_
  exact ret1 (.inr rfl) rfl (.tmp (rfl : _ = AV.ref _ _ _)) (Le.outI [((0, 8), (20, 9))] [] (lvRr rfl rfl) rfl rfl rfl trivial ⟨⟨rfl, ⟨_, rfl, .box rfl (lv_cons .fp (lv_cons .v (lv_cons .sl (lv_cons (.fn rfl (lv_cons (lvPr rfl) lv_nil) rfl lv_nil) (lv_cons .mp (lv_cons (lvRr rfl rfl) lv_nil))))))⟩, rfl⟩, ⟨rfl, ⟨_, rfl, .mp⟩, rfl⟩, ⟨rfl, ⟨_, rfl, .rowE rfl⟩, rfl⟩, ⟨rfl, ⟨_, rfl, .box rfl (lv_cons .sl (lv_cons (lvRr rfl rfl) lv_nil))⟩, rfl⟩, ⟨rfl, ⟨_, rfl, .rowE rfl⟩, rfl⟩, ⟨rfl, ⟨_, rfl, .box rfl (lv_cons (lvPr rfl) lv_nil)⟩, rfl⟩, ⟨rfl, ⟨_, rfl, .rowE rfl⟩, rfl⟩, trivial⟩ ⟨rfl, rfl, rfl, rfl, rfl, rfl, trivial⟩ rfl)
 ·skip
  exact absurd  rfl hc12
set_option maxHeartbeats 1000000 in
theorem delO_some (i0 : Nat) (hi0 : i0 < l.length) (hno : ∀ j, j < i0 → p (l.getD j 0) = false) (hyes : p (l.getD i0 0) = true) :
  Spec Try.prog 130 (inStI [.ref (20, 9) 0 m, .fn (.func f) [] [.ptr (1, 0) 0, .fp 0 xs, .fp 0 ys]] (SS6 n P A h sc st ord ++ [((20, 9), .row 3 1 (nsl l))]))
  (outStI (.ref (0, 8) 0 (l.filter fun v => !p v).length) (SS6 n P A h sc st ord ++ [((0, 8), .row 3 1 (nsl (l.filter fun v => !p v)))]) I78 I6) := by
 have hix := idxO f C n P A h sc st ord xs ys m l hm h1 p hp
 rw [firstI_at (i := i0) (by simpa using hi0) (fun j hj => by rw [getN]; exact hno j hj) (by rw [getN]; exact hyes)] at hix
 have hf0 : flt p l (i0 + 1) = l.take i0 := by rw [flt_no hi0 hyes, flt_all hno (by omega)]
 have hd0 : dcl p l (i0 + 1) = l := by unfold dcl; rw [hf0, List.length_take, Nat.min_eq_left (by omega), List.take_append_drop]
 have hfl0 : (flt p l (i0 + 1)).length = i0 := by rw [hf0, List.length_take]; omega
 refine Spec.ofNI Try.func130 rfl Try.ntmps130 rfl ?_
 refine D_seq fun K1 hK1 => ?_
 refine D_region ?_
 refine DL_c (op_as _ (rfl : _ = AV.v (.slice _ _ _))) ?_
 refine DL_nil (hK1 _ ?_)
 clear hK1; try clear K1
 refine D_seq fun K2 hK2 => ?_
 refine D_region ?_
 refine DL_c (op_mv _ (rfl : _ = AV.ref _ _ _)) ?_
 refine DL_c (op_mv _ (rfl : _ = AV.fn _ _ _)) ?_
 refine DL_c (op_callK0 inferInstance _ _ (by repeat' (first | exact argsR_nil | refine argsR_cons ?_ ?_ | exact Lv.fp | exact lvRr rfl rfl | exact lvPr rfl | refine Lv.fn rfl ?_ rfl ?_ | exact lv_nil | refine lv_cons ?_ ?_)) (hix) ⟨rfl, rfl, rfl, rfl, rfl, rfl, rfl, trivial⟩ rfl (by kernel_rfl) (by simp)) ?_
 refine DL_c (op_as _ (rfl : _ = AV.v (.int _ _))) ?_
 refine DL_nil (hK2 _ ?_)
 clear hK2; try clear K2
 refine D_seq fun K3 hK3 => ?_
 refine D_seq fun K4 hK4 => ?_
 refine D_region ?_
 refine DL_c (op_mv _ (rfl : _ = AV.v (.int _ _))) ?_
 refine DL_c (op_eql _ _ rfl rfl rfl) ?_
 refine DL_nil (hK4 _ ?_)
 clear hK4; try clear K4
 refine D_splitC rfl (fun hc12 => ?_) (fun hc12 => ?_)
 ·skip
  exact absurd  hc12 (by omega)
 ·skip
  refine D_skip (hK3 _ ?_)
  clear hK3; try clear K3
  refine D_seq fun K5 hK5 => ?_
  refine D_seq fun K6 hK6 => ?_
  refine D_region ?_
  refine DL_c (op_mv _ (rfl : _ = AV.v (.int _ _))) ?_
  refine DL_c (op_add _ _ rfl rfl (i64w (by omega))) ?_
  refine DL_c (op_as _ (rfl : _ = AV.v (.int _ _))) ?_
  refine DL_nil (hK6 _ ?_)
  clear hK6; try clear K6
  refine D_block ?_
  refine D_loopL (α := Nat) (fun k => i0 + 1 ≤ k ∧ k ≤ m ∧ (flt p l k).length + 1 ≤ k) 42 [(0, _), (1, _)] [((0, 9), _), ((1, 9), _), ((2, 9), _), ((3, 9), _), ((4, 9), _), ((1, 0), _)] (fun k => [(6, .v (.int .i64 (k : Int))), (5, .v (.int .i64 ((flt p l k).length : Int)))]) (fun k => [((20, 9), .row 3 1 (nsl (dcl p l k)))]) [(0, 9), (1, 9), (2, 9), (3, 9), (4, 9), (1, 0), (20, 9)] [(0, 9), (1, 9), (2, 9), (3, 9), (4, 9), (1, 0), (20, 9)] (fun k => m - k) (i0 + 1) ?_ (by
   refine Le.mkJ [] [] rfl ?_ ?_ trivial ⟨rfl, rfl, rfl, rfl, rfl, rfl, rfl, trivial⟩ ?_
   ·exact ⟨(iR rfl), (iN rfl), (lvI (by rfl)), (lvI (by omega)), trivial⟩
   ·exact ⟨(obE rfl rfl rfl), (obE rfl rfl rfl), (obE rfl rfl rfl), (obE rfl rfl rfl), (obE rfl rfl rfl), (obE rfl rfl rfl), (obR rfl rfl rfl (by rw [hd0])), trivial⟩
   ·kernel_rfl) ?_
  ·exact ⟨Nat.le_refl _, by omega, by omega⟩
  intro k hk
  obtain ⟨hk1, hk2, hk3⟩ := hk
  have hdg := dcl_get (p := p) (l := l) (k := k)
  have hfl := (flt_len p l k).1
  refine D_seq fun K7 hK7 => ?_
  refine D_seq fun K8 hK8 => ?_
  refine D_region ?_
  refine DL_c (op_mv _ (rfl : _ = AV.v (.int _ _))) ?_
  refine DL_c (op_mv _ (rfl : _ = AV.ref _ _ _)) ?_
  refine DL_c (op_lenR _ inferInstance rfl rfl) ?_
  refine DL_c (op_lss _ _ rfl rfl rfl) ?_
  refine DL_nil (hK8 _ ?_)
  clear hK8; try clear K8
  refine D_splitC rfl (fun hc19 => ?_) (fun hc19 => ?_)
  ·skip
   refine D_skip (hK7 _ ?_)
   clear hK7; try clear K7
   refine D_seq fun K9 hK9 => ?_
   refine D_block ?_
   refine D_seq fun K10 hK10 => ?_
   refine D_region ?_
   refine DL_c (op_mv _ (rfl : _ = AV.ref _ _ _)) ?_
   refine DL_c (op_mv _ (rfl : _ = AV.v (.int _ _))) ?_
   refine DL_c (op_ixR _ _ inferInstance rfl rfl rfl _ rfl (by omega) (by exact (Nat.zero_add _).trans (Nat.mul_one _))) ?_
   refine DL_c (op_ldR _ inferInstance rfl rfl (by exact (nsl_get _ _ (by rw [dcl_len]; omega)).trans (by rw [hdg])) rfl) ?_
   refine DL_c (op_as _ (rfl : _ = AV.v (.int _ _))) ?_
   refine DL_nil (hK10 _ ?_)
   clear hK10; try clear K10
   refine D_seq fun K11 hK11 => ?_
   refine D_region ?_
   refine DL_c (op_mv _ (rfl : _ = AV.fn _ _ _)) ?_
   refine DL_c (op_mv _ (rfl : _ = AV.v (.int _ _))) ?_
   refine DL_c (op_callK0V rfl inferInstance _ _ (by repeat' (first | exact argsR_nil | refine argsR_cons ?_ ?_ | exact Lv.v | exact Lv.fp | exact lvPr rfl)) (hp (l.getD k 0)) ⟨rfl, rfl, rfl, rfl, rfl, rfl, trivial⟩ rfl (by kernel_rfl) (by simp)) ?_
   refine DL_c (op_not _ rfl rfl) ?_
   refine DL_nil (hK11 _ ?_)
   clear hK11; try clear K11
   refine D_splitC rfl (fun hc29 => ?_) (fun hc29 => ?_)
   ·skip
    have hpk : p (l.getD k 0) = false := by simpa using hc29
    have hf1 := flt_yes (by omega) hpk
    have hd1 := dcl_yes (by omega) hpk
    refine D_seq fun K12 hK12 => ?_
    refine D_region ?_
    refine DL_c (op_mv _ (rfl : _ = AV.ref _ _ _)) ?_
    refine DL_c (op_mv _ (rfl : _ = AV.v (.int _ _))) ?_
    refine DL_c (op_mv _ (rfl : _ = AV.v (.int _ _))) ?_
    refine DL_c (op_ixR _ _ inferInstance rfl rfl rfl (flt p l k).length rfl (by omega) (by exact (Nat.zero_add _).trans (Nat.mul_one _))) ?_
    refine DL_c (op_stR _ _ inferInstance rfl rfl rfl rfl rfl (by rw [nsl_len, dcl_len]; simp only [List.length_cons, List.length_nil]; omega) (nslN_put _ _ _ (by rw [dcl_len]; omega))) ?_
    refine DL_nil (hK12 _ ?_)
    clear hK12; try clear K12
    refine D_le (σ' := mkStI 42 [(0, _), (1, _), (5, _), (6, _)] [((0, 9), _), ((1, 9), _), ((2, 9), _), ((3, 9), _), ((4, 9), _), ((1, 0), _), ((20, 9), _)] [(0, 9), (1, 9), (2, 9), (3, 9), (4, 9), (1, 0), (20, 9)] [(0, 9), (1, 9), (2, 9), (3, 9), (4, 9), (1, 0), (20, 9)]) (by
     refine Le.mkJ [] [] rfl ?_ ?_ trivial ⟨rfl, rfl, rfl, rfl, rfl, rfl, rfl, trivial⟩ ?_
     ·exact ⟨(iR rfl), (iN rfl), (iV rfl), (iV rfl), trivial⟩
     ·exact ⟨(obE rfl rfl rfl), (obE rfl rfl rfl), (obE rfl rfl rfl), (obE rfl rfl rfl), (obE rfl rfl rfl), (obE rfl rfl rfl), (obE rfl rfl rfl), trivial⟩
     ·kernel_rfl) ?_
    refine D_region ?_
    refine DL_c (op_mv _ (rfl : _ = AV.v (.int _ _))) ?_
    refine DL_c (op_add _ _ rfl rfl (i64w (by omega))) ?_
    refine DL_c (op_as _ (rfl : _ = AV.v (.int _ _))) ?_
    refine DL_nil (hK9 _ ?_)
    clear hK9; try clear K9
    refine D_region ?_
    refine DL_c (op_mv _ (rfl : _ = AV.v (.int _ _))) ?_
    refine DL_c (op_add _ _ rfl rfl (i64w (by omega))) ?_
    refine DL_c (op_as _ (rfl : _ = AV.v (.int _ _))) ?_
    refine DL_nil ?_
    refine ⟨k + 1, ?_, ?_, ?_⟩
    ·exact ⟨by omega, by omega, by rw [hf1, List.length_append, List.length_cons, List.length_nil]; omega⟩
    ·skip
     refine Le.mkJ [] [] rfl ?_ ?_ trivial ⟨rfl, rfl, rfl, rfl, rfl, rfl, rfl, trivial⟩ ?_
     ·exact ⟨(iR rfl), (iN rfl), (lvI (by rfl)), (lvI (by ((rw [hf1, List.length_append, List.length_cons, List.length_nil]; omega)))), trivial⟩
     ·exact ⟨(obE rfl rfl rfl), (obE rfl rfl rfl), (obE rfl rfl rfl), (obE rfl rfl rfl), (obE rfl rfl rfl), (obE rfl rfl rfl), (obR rfl rfl rfl (by ((rw [hd1])))), trivial⟩
     ·kernel_rfl
    ·omega
   ·skip
    have hpk : p (l.getD k 0) = true := by simpa using hc29
    have hf1 := flt_no (by omega) hpk
    have hd1 := dcl_no (by omega) hpk
    refine D_skip (hK9 _ ?_)
    clear hK9; try clear K9
    refine D_region ?_
    refine DL_c (op_mv _ (rfl : _ = AV.v (.int _ _))) ?_
    refine DL_c (op_add _ _ rfl rfl (i64w (by omega))) ?_
    refine DL_c (op_as _ (rfl : _ = AV.v (.int _ _))) ?_
    refine DL_nil ?_
    refine ⟨k + 1, ?_, ?_, ?_⟩
    ·exact ⟨by omega, by omega, by rw [hf1]; omega⟩
    ·skip
     refine Le.mkJ [] [] rfl ?_ ?_ trivial ⟨rfl, rfl, rfl, rfl, rfl, rfl, rfl, trivial⟩ ?_
     ·exact ⟨(iR rfl), (iN rfl), (lvI (by rfl)), (lvI (by ((rw [hf1])))), trivial⟩
     ·exact ⟨(obE rfl rfl rfl), (obE rfl rfl rfl), (obE rfl rfl rfl), (obE rfl rfl rfl), (obE rfl rfl rfl), (obE rfl rfl rfl), (obR rfl rfl rfl (by ((rw [hd1])))), trivial⟩
     ·kernel_rfl
    ·omega
  ·skip
   have hkn : k = l.length := by omega
   have hff : flt p l k = l.filter fun v => !p v := by unfold flt; rw [hkn, List.take_length]
   obtain ⟨zs, hzs⟩ := clr_rowN (a := flt p l k) (b := l.drop (flt p l k).length) (k := (flt p l k).length) (n := m) rfl (by rw [List.length_drop]; omega)
   refine D_exit ?_
   refine id (hK5 _ ?_)
   clear hK5; try clear K5
   refine D_seq fun K13 hK13 => ?_
   refine D_region ?_
   refine DL_c (op_mv _ (rfl : _ = AV.ref _ _ _)) ?_
   refine DL_c (op_mv _ (rfl : _ = AV.v (.int _ _))) ?_
   refine DL_c (op_slR _ _ _ inferInstance rfl rfl (flt p l k).length _ (.lit rfl rfl) .dflt (by omega) (by omega) (by exact (Nat.zero_add _).trans (Nat.mul_one _)) rfl) ?_
   refine DL_c (op_clr _ inferInstance rfl rfl (by omega) (by (simp only [isl_len, bsl_len, psl_len, mrows_len, nsl_len, ws_len, List.length_map, ul_len, psl_len, isl_len, nrows_len, mmap_len, smap_len, dcl_len]; omega)) rfl) ?_
   refine DL_nil (hK13 _ ?_)
   clear hK13; try clear K13
   refine D_seq fun K14 hK14 => ?_
   refine D_region ?_
   refine DL_c (op_mv _ (rfl : _ = AV.ref _ _ _)) ?_
   refine DL_c (op_mv _ (rfl : _ = AV.v (.int _ _))) ?_
   refine DL_c (op_slR _ _ _ inferInstance rfl rfl 0 (flt p l k).length .dflt (.lit rfl rfl) (by omega) (by omega) rfl (Nat.sub_zero _)) ?_
   refine DL_c (op_as _ (rfl : _ = AV.ref _ _ _)) ?_
   refine DL_nil (hK14 _ ?_)
   clear hK14; try clear K14
   refine D_ret ?_
   rw [← hff]
   exact ret1 (.inr rfl) rfl (.tmp (rfl : _ = AV.ref _ _ _)) (Le.outI [((0, 8), (20, 9))] [] (lvRr rfl (by omega)) rfl rfl rfl trivial ⟨⟨rfl, ⟨_, rfl, .box rfl (lv_cons .fp (lv_cons .v (lv_cons .sl (lv_cons (.fn rfl (lv_cons (lvPr rfl) lv_nil) rfl lv_nil) (lv_cons .mp (lv_cons (lvRr rfl rfl) lv_nil))))))⟩, rfl⟩, ⟨rfl, ⟨_, rfl, .mp⟩, rfl⟩, ⟨rfl, ⟨_, rfl, .rowE rfl⟩, rfl⟩, ⟨rfl, ⟨_, rfl, .box rfl (lv_cons .sl (lv_cons (lvRr rfl rfl) lv_nil))⟩, rfl⟩, ⟨rfl, ⟨_, rfl, .rowE rfl⟩, rfl⟩, ⟨rfl, ⟨_, rfl, .box rfl (lv_cons (lvPr rfl) lv_nil)⟩, rfl⟩, ⟨rfl, ⟨_, rfl, .row hzs⟩, rfl⟩, trivial⟩ ⟨rfl, rfl, rfl, rfl, rfl, rfl, trivial⟩ rfl)
theorem delO : Spec Try.prog 130 (inStI [.ref (20, 9) 0 m, .fn (.func f) [] [.ptr (1, 0) 0, .fp 0 xs, .fp 0 ys]] (SS6 n P A h sc st ord ++ [((20, 9), .row 3 1 (nsl l))]))
  (outStI (.ref (0, 8) 0 (l.filter fun v => !p v).length) (SS6 n P A h sc st ord ++ [((0, 8), .row 3 1 (nsl (l.filter fun v => !p v)))]) I78 I6) := by
 rcases first_case (fun j => p (l.getD j 0)) l.length with h2 | ⟨i, h2, h3, h4⟩
 ·rw [filter_none h2, hm]; exact delO_none f C n P A h sc st ord xs ys m l hm h1 p hp h2
 ·exact delO_some f C n P A h sc st ord xs ys m l hm h1 p hp i h2 h3 h4
end
section
variable (f : FuncId) (C : Cbl Try.prog f) (n : Nat) (P A : List Nat) (h : Nat) (sc : List Nat) (st : List Int) (ord : List Nat) (xs : List PV) (m : Nat) (l : List Nat) (hm : l.length = m) (h1 : m ≤ 1000000) (p : Nat → Bool)
  (hp : ∀ x : Nat, Spec Try.prog f (inStI (.v (.int .i64 (x : Int)) :: [.fp 0 xs, .ptr (1, 0) 0]) (SS6 n P A h sc st ord)) (outStI (.v (.bool (p x))) (SS6 n P A h sc st ord) I6 I6))
include C hm h1 hp
theorem idxC : Spec Try.prog 120 (inStI [.ref (20, 9) 0 m, .fn (.func f) [] [.fp 0 xs, .ptr (1, 0) 0]] (SS6 n P A h sc st ord ++ [((20, 9), .row 3 1 (nsl l))]))
  (outStI (.v (.int .i64 (firstI (fun x => p x.toNat) (l.map fun (x : Nat) => (x : Int))))) (SS6 n P A h sc st ord ++ [((20, 9), .row 3 1 (nsl l))]) I7 I7) := by
 have hgn := getN l
 refine Spec.ofNI Try.func120 rfl Try.ntmps120 rfl ?_
 refine D_seq fun K1 hK1 => ?_
 refine D_region ?_
 refine DL_c (op_as _ (rfl : _ = AV.v (.int _ _))) ?_
 refine DL_nil (hK1 _ ?_)
 clear hK1; try clear K1
 refine D_seq fun K2 hK2 => ?_
 refine D_seq fun K3 hK3 => ?_
 refine D_region ?_
 refine DL_c (op_mv _ (rfl : _ = AV.ref _ _ _)) ?_
 refine DL_c (op_lenR _ inferInstance rfl rfl) ?_
 refine DL_c (op_mv _ (rfl : _ = AV.v (.int _ _))) ?_
 refine DL_nil (hK3 _ ?_)
 clear hK3; try clear K3
 refine D_block ?_
 refine D_loopL (α := Nat) (fun i => i ≤ m ∧ ∀ j, j < i → p (l.getD j 0) = false) 19 [(0, _), (1, _), (7, _)] [((0, 9), _), ((1, 9), _), ((2, 9), _), ((3, 9), _), ((4, 9), _), ((1, 0), _), ((20, 9), _)] (fun i => [(8, .v (.int .i64 (i : Int)))]) (fun i => []) [(0, 9), (1, 9), (2, 9), (3, 9), (4, 9), (1, 0), (20, 9)] [(0, 9), (1, 9), (2, 9), (3, 9), (4, 9), (1, 0), (20, 9)] (fun i => m - i) 0 ?_ (by
  refine Le.mkJ [] [] rfl ?_ ?_ trivial ⟨rfl, rfl, rfl, rfl, rfl, rfl, rfl, trivial⟩ ?_
  ·exact ⟨(iR rfl), (iN rfl), (iV rfl), (lvI (by rfl)), trivial⟩
  ·exact ⟨(obE rfl rfl rfl), (obE rfl rfl rfl), (obE rfl rfl rfl), (obE rfl rfl rfl), (obE rfl rfl rfl), (obE rfl rfl rfl), (obE rfl rfl rfl), trivial⟩
  ·kernel_rfl) ?_
 ·exact ⟨by omega, fun j hj => by omega⟩
 intro i hi
 obtain ⟨hi, hno⟩ := hi
 refine D_seq fun K4 hK4 => ?_
 refine D_region ?_
 refine DL_c (op_lss _ _ rfl rfl rfl) ?_
 refine DL_nil (hK4 _ ?_)
 clear hK4; try clear K4
 refine D_seq fun K5 hK5 => ?_
 refine D_splitC rfl (fun hc9 => ?_) (fun hc9 => ?_)
 ·skip
  refine D_skip (hK5 _ ?_)
  clear hK5; try clear K5
  refine D_seq fun K6 hK6 => ?_
  refine D_block ?_
  refine D_seq fun K7 hK7 => ?_
  refine D_region ?_
  refine DL_c (op_mv _ (rfl : _ = AV.v (.int _ _))) ?_
  refine DL_c (op_as _ (rfl : _ = AV.v (.int _ _))) ?_
  refine DL_nil (hK7 _ ?_)
  clear hK7; try clear K7
  refine D_seq fun K8 hK8 => ?_
  refine D_region ?_
  refine DL_c (op_mv _ (rfl : _ = AV.fn _ _ _)) ?_
  refine DL_c (op_mv _ (rfl : _ = AV.ref _ _ _)) ?_
  refine DL_c (op_mv _ (rfl : _ = AV.v (.int _ _))) ?_
  refine DL_c (op_ixR _ _ inferInstance rfl rfl rfl _ rfl (by omega) (by exact (Nat.zero_add _).trans (Nat.mul_one _))) ?_
  refine DL_c (op_ldR _ inferInstance rfl rfl (by exact nsl_get _ _ (by omega)) rfl) ?_
  refine DL_c (op_callK0V rfl inferInstance _ _ (by repeat' (first | exact argsR_nil | refine argsR_cons ?_ ?_ | exact Lv.v | exact Lv.fp | exact lvPr rfl)) (hp (l.getD i 0)) ⟨rfl, rfl, rfl, rfl, rfl, rfl, trivial⟩ rfl (by kernel_rfl) (by simp)) ?_
  refine DL_nil (hK8 _ ?_)
  clear hK8; try clear K8
  refine D_splitC rfl (fun hc16 => ?_) (fun hc16 => ?_)
  ·skip
   refine D_seq fun K9 hK9 => ?_
   refine D_region ?_
   refine DL_c (op_mv _ (rfl : _ = AV.v (.int _ _))) ?_
   refine DL_c (op_as _ (rfl : _ = AV.v (.int _ _))) ?_
   refine DL_nil (hK9 _ ?_)
   clear hK9; try clear K9
   refine D_ret ?_
   exact ret1 (.inr rfl) rfl (.tmp (rfl : _ = AV.v (.int _ _))) (Le.outI [] [] (lvI (firstI_at (by simp; omega) (fun j hj => by rw [hgn]; exact hno j hj) (by rw [hgn]; exact hc16))) rfl rfl rfl trivial ⟨⟨rfl, ⟨_, rfl, lvO_id _⟩, rfl⟩, ⟨rfl, ⟨_, rfl, lvO_id _⟩, rfl⟩, ⟨rfl, ⟨_, rfl, lvO_id _⟩, rfl⟩, ⟨rfl, ⟨_, rfl, lvO_id _⟩, rfl⟩, ⟨rfl, ⟨_, rfl, lvO_id _⟩, rfl⟩, ⟨rfl, ⟨_, rfl, lvO_id _⟩, rfl⟩, ⟨rfl, ⟨_, rfl, lvO_id _⟩, rfl⟩, trivial⟩ ⟨rfl, rfl, rfl, rfl, rfl, rfl, rfl, trivial⟩ rfl)
  ·skip
   refine D_skip (hK6 _ ?_)
   clear hK6; try clear K6
   refine D_region ?_
   refine DL_c (op_add _ _ rfl rfl (i64w (by omega))) ?_
   refine DL_c (op_mv _ (rfl : _ = AV.v (.int _ _))) ?_
   refine DL_nil ?_
   refine ⟨i + 1, ?_, ?_, ?_⟩
   ·exact ⟨by omega, all_succ hno hc16⟩
   ·skip
    refine Le.mkJ [] [] rfl ?_ ?_ trivial ⟨rfl, rfl, rfl, rfl, rfl, rfl, rfl, trivial⟩ ?_
    ·exact ⟨(iR rfl), (iN rfl), (iV rfl), (lvI (by rfl)), trivial⟩
    ·exact ⟨(obE rfl rfl rfl), (obE rfl rfl rfl), (obE rfl rfl rfl), (obE rfl rfl rfl), (obE rfl rfl rfl), (obE rfl rfl rfl), (obE rfl rfl rfl), trivial⟩
    ·kernel_rfl
   ·omega
 ·skip
  refine D_exit ?_
  refine id (hK2 _ ?_)
  clear hK2; try clear K2
  refine D_seq fun K10 hK10 => ?_
  refine D_region ?_
  refine DL_c (op_as _ (rfl : _ = AV.v (.int _ _))) ?_
  refine DL_nil (hK10 _ ?_)
  clear hK10; try clear K10
  refine D_ret ?_
  exact ret1 (.inr rfl) rfl (.tmp (rfl : _ = AV.v (.int _ _))) (Le.outI [] [] (lvI (firstI_none fun j hj => by rw [hgn]; exact hno j (by simp at hj; omega))) rfl rfl rfl trivial ⟨⟨rfl, ⟨_, rfl, lvO_id _⟩, rfl⟩, ⟨rfl, ⟨_, rfl, lvO_id _⟩, rfl⟩, ⟨rfl, ⟨_, rfl, lvO_id _⟩, rfl⟩, ⟨rfl, ⟨_, rfl, lvO_id _⟩, rfl⟩, ⟨rfl, ⟨_, rfl, lvO_id _⟩, rfl⟩, ⟨rfl, ⟨_, rfl, lvO_id _⟩, rfl⟩, ⟨rfl, ⟨_, rfl, lvO_id _⟩, rfl⟩, trivial⟩ ⟨rfl, rfl, rfl, rfl, rfl, rfl, rfl, trivial⟩ rfl)
theorem delC_none (h0 : ∀ j, j < l.length → p (l.getD j 0) = false) : Spec Try.prog 130 (inStI [.ref (20, 9) 0 m, .fn (.func f) [] [.fp 0 xs, .ptr (1, 0) 0]] (SS6 n P A h sc st ord ++ [((20, 9), .row 3 1 (nsl l))]))
  (outStI (.ref (0, 8) 0 m) (SS6 n P A h sc st ord ++ [((0, 8), .row 3 1 (nsl l))]) I78 I6) := by
 have hix := idxC f C n P A h sc st ord xs m l hm h1 p hp
 rw [firstI_none fun j hj => by rw [getN]; exact h0 j (by simpa using hj)] at hix
 refine Spec.ofNI Try.func130 rfl Try.ntmps130 rfl ?_
 refine D_seq fun K1 hK1 => ?_
 refine D_region ?_
 refine DL_c (op_as _ (rfl : _ = AV.v (.slice _ _ _))) ?_
 refine DL_nil (hK1 _ ?_)
 clear hK1; try clear K1
 refine D_seq fun K2 hK2 => ?_
 refine D_region ?_
 refine DL_c (op_mv _ (rfl : _ = AV.ref _ _ _)) ?_
 refine DL_c (op_mv _ (rfl : _ = AV.fn _ _ _)) ?_
 refine DL_c (op_callK0 inferInstance _ _ (by repeat' (first | exact argsR_nil | refine argsR_cons ?_ ?_ | exact Lv.fp | exact lvRr rfl rfl | exact lvPr rfl | refine Lv.fn rfl ?_ rfl ?_ | exact lv_nil | refine lv_cons ?_ ?_)) (hix) ⟨rfl, rfl, rfl, rfl, rfl, rfl, rfl, trivial⟩ rfl (by kernel_rfl) (by simp)) ?_
 refine DL_c (op_as _ (rfl : _ = AV.v (.int _ _))) ?_
 refine DL_nil (hK2 _ ?_)
 clear hK2; try clear K2
 refine D_seq fun K3 hK3 => ?_
 refine D_seq fun K4 hK4 => ?_
 refine D_region ?_
 refine DL_c (op_mv _ (rfl : _ = AV.v (.int _ _))) ?_
 refine DL_c (op_eql _ _ rfl rfl rfl) ?_
 refine DL_nil (hK4 _ ?_)
 clear hK4; try clear K4
 refine D_splitC rfl (fun hc12 => ?_) (fun hc12 => ?_)
 ·skip
  refine D_seq fun K5 hK5 => ?_
  refine D_region ?_
  refine DL_c (op_mv _ (rfl : _ = AV.ref _ _ _)) ?_
  refine DL_c (op_as _ (rfl : _ = AV.ref _ _ _)) ?_
  refine DL_nil (hK5 _ ?_)
  clear hK5; try clear K5
  refine D_ret ?_
  exact ret1 (.inr rfl) rfl (.tmp (rfl : _ = AV.ref _ _ _)) (Le.outI [((0, 8), (20, 9))] [] (lvRr rfl rfl) rfl rfl rfl trivial ⟨⟨rfl, ⟨_, rfl, .box rfl (lv_cons .fp (lv_cons .v (lv_cons .sl (lv_cons (.fn rfl (lv_cons (lvPr rfl) lv_nil) rfl lv_nil) (lv_cons .mp (lv_cons (lvRr rfl rfl) lv_nil))))))⟩, rfl⟩, ⟨rfl, ⟨_, rfl, .mp⟩, rfl⟩, ⟨rfl, ⟨_, rfl, .rowE rfl⟩, rfl⟩, ⟨rfl, ⟨_, rfl, .box rfl (lv_cons .sl (lv_cons (lvRr rfl rfl) lv_nil))⟩, rfl⟩, ⟨rfl, ⟨_, rfl, .rowE rfl⟩, rfl⟩, ⟨rfl, ⟨_, rfl, .box rfl (lv_cons (lvPr rfl) lv_nil)⟩, rfl⟩, ⟨rfl, ⟨_, rfl, .rowE rfl⟩, rfl⟩, trivial⟩ ⟨rfl, rfl, rfl, rfl, rfl, rfl, trivial⟩ rfl)
 ·skip
  exact absurd  rfl hc12
set_option maxHeartbeats 1000000 in
theorem delC_some (i0 : Nat) (hi0 : i0 < l.length) (hno : ∀ j, j < i0 → p (l.getD j 0) = false) (hyes : p (l.getD i0 0) = true) :
  Spec Try.prog 130 (inStI [.ref (20, 9) 0 m, .fn (.func f) [] [.fp 0 xs, .ptr (1, 0) 0]] (SS6 n P A h sc st ord ++ [((20, 9), .row 3 1 (nsl l))]))
  (outStI (.ref (0, 8) 0 (l.filter fun v => !p v).length) (SS6 n P A h sc st ord ++ [((0, 8), .row 3 1 (nsl (l.filter fun v => !p v)))]) I78 I6) := by
 have hix := idxC f C n P A h sc st ord xs m l hm h1 p hp
 rw [firstI_at (i := i0) (by simpa using hi0) (fun j hj => by rw [getN]; exact hno j hj) (by rw [getN]; exact hyes)] at hix
 have hf0 : flt p l (i0 + 1) = l.take i0 := by rw [flt_no hi0 hyes, flt_all hno (by omega)]
 have hd0 : dcl p l (i0 + 1) = l := by unfold dcl; rw [hf0, List.length_take, Nat.min_eq_left (by omega), List.take_append_drop]
 have hfl0 : (flt p l (i0 + 1)).length = i0 := by rw [hf0, List.length_take]; omega
 refine Spec.ofNI Try.func130 rfl Try.ntmps130 rfl ?_
 refine D_seq fun K1 hK1 => ?_
 refine D_region ?_
 refine DL_c (op_as _ (rfl : _ = AV.v (.slice _ _ _))) ?_
 refine DL_nil (hK1 _ ?_)
 clear hK1; try clear K1
 refine D_seq fun K2 hK2 => ?_
 refine D_region ?_
 refine DL_c (op_mv _ (rfl : _ = AV.ref _ _ _)) ?_
 refine DL_c (op_mv _ (rfl : _ = AV.fn _ _ _)) ?_
 refine DL_c (op_callK0 inferInstance _ _ (by repeat' (first | exact argsR_nil | refine argsR_cons ?_ ?_ | exact Lv.fp | exact lvRr rfl rfl | exact lvPr rfl | refine Lv.fn rfl ?_ rfl ?_ | exact lv_nil | refine lv_cons ?_ ?_)) (hix) ⟨rfl, rfl, rfl, rfl, rfl, rfl, rfl, trivial⟩ rfl (by kernel_rfl) (by simp)) ?_
 refine DL_c (op_as _ (rfl : _ = AV.v (.int _ _))) ?_
 refine DL_nil (hK2 _ ?_)
 clear hK2; try clear K2
 refine D_seq fun K3 hK3 => ?_
 refine D_seq fun K4 hK4 => ?_
 refine D_region ?_
 refine DL_c (op_mv _ (rfl : _ = AV.v (.int _ _))) ?_
 refine DL_c (op_eql _ _ rfl rfl rfl) ?_
 refine DL_nil (hK4 _ ?_)
 clear hK4; try clear K4
 refine D_splitC rfl (fun hc12 => ?_) (fun hc12 => ?_)
 ·skip
  exact absurd  hc12 (by omega)
 ·skip
  refine D_skip (hK3 _ ?_)
  clear hK3; try clear K3
  refine D_seq fun K5 hK5 => ?_
  refine D_seq fun K6 hK6 => ?_
  refine D_region ?_
  refine DL_c (op_mv _ (rfl : _ = AV.v (.int _ _))) ?_
  refine DL_c (op_add _ _ rfl rfl (i64w (by omega))) ?_
  refine DL_c (op_as _ (rfl : _ = AV.v (.int _ _))) ?_
  refine DL_nil (hK6 _ ?_)
  clear hK6; try clear K6
  refine D_block ?_
  refine D_loopL (α := Nat) (fun k => i0 + 1 ≤ k ∧ k ≤ m ∧ (flt p l k).length + 1 ≤ k) 42 [(0, _), (1, _)] [((0, 9), _), ((1, 9), _), ((2, 9), _), ((3, 9), _), ((4, 9), _), ((1, 0), _)] (fun k => [(6, .v (.int .i64 (k : Int))), (5, .v (.int .i64 ((flt p l k).length : Int)))]) (fun k => [((20, 9), .row 3 1 (nsl (dcl p l k)))]) [(0, 9), (1, 9), (2, 9), (3, 9), (4, 9), (1, 0), (20, 9)] [(0, 9), (1, 9), (2, 9), (3, 9), (4, 9), (1, 0), (20, 9)] (fun k => m - k) (i0 + 1) ?_ (by
   refine Le.mkJ [] [] rfl ?_ ?_ trivial ⟨rfl, rfl, rfl, rfl, rfl, rfl, rfl, trivial⟩ ?_
   ·exact ⟨(iR rfl), (iN rfl), (lvI (by rfl)), (lvI (by omega)), trivial⟩
   ·exact ⟨(obE rfl rfl rfl), (obE rfl rfl rfl), (obE rfl rfl rfl), (obE rfl rfl rfl), (obE rfl rfl rfl), (obE rfl rfl rfl), (obR rfl rfl rfl (by rw [hd0])), trivial⟩
   ·kernel_rfl) ?_
  ·exact ⟨Nat.le_refl _, by omega, by omega⟩
  intro k hk
  obtain ⟨hk1, hk2, hk3⟩ := hk
  have hdg := dcl_get (p := p) (l := l) (k := k)
  have hfl := (flt_len p l k).1
  refine D_seq fun K7 hK7 => ?_
  refine D_seq fun K8 hK8 => ?_
  refine D_region ?_
  refine DL_c (op_mv _ (rfl : _ = AV.v (.int _ _))) ?_
  refine DL_c (op_mv _ (rfl : _ = AV.ref _ _ _)) ?_
  refine DL_c (op_lenR _ inferInstance rfl rfl) ?_
  refine DL_c (op_lss _ _ rfl rfl rfl) ?_
  refine DL_nil (hK8 _ ?_)
  clear hK8; try clear K8
  refine D_splitC rfl (fun hc19 => ?_) (fun hc19 => ?_)
  ·skip
   refine D_skip (hK7 _ ?_)
   clear hK7; try clear K7
   refine D_seq fun K9 hK9 => ?_
   refine D_block ?_
   refine D_seq fun K10 hK10 => ?_
   refine D_region ?_
   refine DL_c (op_mv _ (rfl : _ = AV.ref _ _ _)) ?_
   refine DL_c (op_mv _ (rfl : _ = AV.v (.int _ _))) ?_
   refine DL_c (op_ixR _ _ inferInstance rfl rfl rfl _ rfl (by omega) (by exact (Nat.zero_add _).trans (Nat.mul_one _))) ?_
   refine DL_c (op_ldR _ inferInstance rfl rfl (by exact (nsl_get _ _ (by rw [dcl_len]; omega)).trans (by rw [hdg])) rfl) ?_
   refine DL_c (op_as _ (rfl : _ = AV.v (.int _ _))) ?_
   refine DL_nil (hK10 _ ?_)
   clear hK10; try clear K10
   refine D_seq fun K11 hK11 => ?_
   refine D_region ?_
   refine DL_c (op_mv _ (rfl : _ = AV.fn _ _ _)) ?_
   refine DL_c (op_mv _ (rfl : _ = AV.v (.int _ _))) ?_
   refine DL_c (op_callK0V rfl inferInstance _ _ (by repeat' (first | exact argsR_nil | refine argsR_cons ?_ ?_ | exact Lv.v | exact Lv.fp | exact lvPr rfl)) (hp (l.getD k 0)) ⟨rfl, rfl, rfl, rfl, rfl, rfl, trivial⟩ rfl (by kernel_rfl) (by simp)) ?_
   refine DL_c (op_not _ rfl rfl) ?_
   refine DL_nil (hK11 _ ?_)
   clear hK11; try clear K11
   refine D_splitC rfl (fun hc29 => ?_) (fun hc29 => ?_)
   ·skip
    have hpk : p (l.getD k 0) = false := by simpa using hc29
    have hf1 := flt_yes (by omega) hpk
    have hd1 := dcl_yes (by omega) hpk
    refine D_seq fun K12 hK12 => ?_
    refine D_region ?_
    refine DL_c (op_mv _ (rfl : _ = AV.ref _ _ _)) ?_
    refine DL_c (op_mv _ (rfl : _ = AV.v (.int _ _))) ?_
    refine DL_c (op_mv _ (rfl : _ = AV.v (.int _ _))) ?_
    refine DL_c (op_ixR _ _ inferInstance rfl rfl rfl (flt p l k).length rfl (by omega) (by exact (Nat.zero_add _).trans (Nat.mul_one _))) ?_
    refine DL_c (op_stR _ _ inferInstance rfl rfl rfl rfl rfl (by rw [nsl_len, dcl_len]; simp only [List.length_cons, List.length_nil]; omega) (nslN_put _ _ _ (by rw [dcl_len]; omega))) ?_
    refine DL_nil (hK12 _ ?_)
    clear hK12; try clear K12
    refine D_le (σ' := mkStI 42 [(0, _), (1, _), (5, _), (6, _)] [((0, 9), _), ((1, 9), _), ((2, 9), _), ((3, 9), _), ((4, 9), _), ((1, 0), _), ((20, 9), _)] [(0, 9), (1, 9), (2, 9), (3, 9), (4, 9), (1, 0), (20, 9)] [(0, 9), (1, 9), (2, 9), (3, 9), (4, 9), (1, 0), (20, 9)]) (by
     refine Le.mkJ [] [] rfl ?_ ?_ trivial ⟨rfl, rfl, rfl, rfl, rfl, rfl, rfl, trivial⟩ ?_
     ·exact ⟨(iR rfl), (iN rfl), (iV rfl), (iV rfl), trivial⟩
     ·exact ⟨(obE rfl rfl rfl), (obE rfl rfl rfl), (obE rfl rfl rfl), (obE rfl rfl rfl), (obE rfl rfl rfl), (obE rfl rfl rfl), (obE rfl rfl rfl), trivial⟩
     ·kernel_rfl) ?_
    refine D_region ?_
    refine DL_c (op_mv _ (rfl : _ = AV.v (.int _ _))) ?_
    refine DL_c (op_add _ _ rfl rfl (i64w (by omega))) ?_
    refine DL_c (op_as _ (rfl : _ = AV.v (.int _ _))) ?_
    refine DL_nil (hK9 _ ?_)
    clear hK9; try clear K9
    refine D_region ?_
    refine DL_c (op_mv _ (rfl : _ = AV.v (.int _ _))) ?_
    refine DL_c (op_add _ _ rfl rfl (i64w (by omega))) ?_
    refine DL_c (op_as _ (rfl : _ = AV.v (.int _ _))) ?_
    refine DL_nil ?_
    refine ⟨k + 1, ?_, ?_, ?_⟩
    ·exact ⟨by omega, by omega, by rw [hf1, List.length_append, List.length_cons, List.length_nil]; omega⟩
    ·skip
     refine Le.mkJ [] [] rfl ?_ ?_ trivial ⟨rfl, rfl, rfl, rfl, rfl, rfl, rfl, trivial⟩ ?_
     ·exact ⟨(iR rfl), (iN rfl), (lvI (by rfl)), (lvI (by ((rw [hf1, List.length_append, List.length_cons, List.length_nil]; omega)))), trivial⟩
     ·exact ⟨(obE rfl rfl rfl), (obE rfl rfl rfl), (obE rfl rfl rfl), (obE rfl rfl rfl), (obE rfl rfl rfl), (obE rfl rfl rfl), (obR rfl rfl rfl (by ((rw [hd1])))), trivial⟩
     ·kernel_rfl
    ·omega
   ·skip
    have hpk : p (l.getD k 0) = true := by simpa using hc29
    have hf1 := flt_no (by omega) hpk
    have hd1 := dcl_no (by omega) hpk
    refine D_skip (hK9 _ ?_)
    clear hK9; try clear K9
    refine D_region ?_
    refine DL_c (op_mv _ (rfl : _ = AV.v (.int _ _))) ?_
    refine DL_c (op_add _ _ rfl rfl (i64w (by omega))) ?_
    refine DL_c (op_as _ (rfl : _ = AV.v (.int _ _))) ?_
    refine DL_nil ?_
    refine ⟨k + 1, ?_, ?_, ?_⟩
    ·exact ⟨by omega, by omega, by rw [hf1]; omega⟩
    ·skip
     refine Le.mkJ [] [] rfl ?_ ?_ trivial ⟨rfl, rfl, rfl, rfl, rfl, rfl, rfl, trivial⟩ ?_
     ·exact ⟨(iR rfl), (iN rfl), (lvI (by rfl)), (lvI (by ((rw [hf1])))), trivial⟩
     ·exact ⟨(obE rfl rfl rfl), (obE rfl rfl rfl), (obE rfl rfl rfl), (obE rfl rfl rfl), (obE rfl rfl rfl), (obE rfl rfl rfl), (obR rfl rfl rfl (by ((rw [hd1])))), trivial⟩
     ·kernel_rfl
    ·omega
  ·skip
   have hkn : k = l.length := by omega
   have hff : flt p l k = l.filter fun v => !p v := by unfold flt; rw [hkn, List.take_length]
   obtain ⟨zs, hzs⟩ := clr_rowN (a := flt p l k) (b := l.drop (flt p l k).length) (k := (flt p l k).length) (n := m) rfl (by rw [List.length_drop]; omega)
   refine D_exit ?_
   refine id (hK5 _ ?_)
   clear hK5; try clear K5
   refine D_seq fun K13 hK13 => ?_
   refine D_region ?_
   refine DL_c (op_mv _ (rfl : _ = AV.ref _ _ _)) ?_
   refine DL_c (op_mv _ (rfl : _ = AV.v (.int _ _))) ?_
   refine DL_c (op_slR _ _ _ inferInstance rfl rfl (flt p l k).length _ (.lit rfl rfl) .dflt (by omega) (by omega) (by exact (Nat.zero_add _).trans (Nat.mul_one _)) rfl) ?_
   refine DL_c (op_clr _ inferInstance rfl rfl (by omega) (by (simp only [isl_len, bsl_len, psl_len, mrows_len, nsl_len, ws_len, List.length_map, ul_len, psl_len, isl_len, nrows_len, mmap_len, smap_len, dcl_len]; omega)) rfl) ?_
   refine DL_nil (hK13 _ ?_)
   clear hK13; try clear K13
   refine D_seq fun K14 hK14 => ?_
   refine D_region ?_
   refine DL_c (op_mv _ (rfl : _ = AV.ref _ _ _)) ?_
   refine DL_c (op_mv _ (rfl : _ = AV.v (.int _ _))) ?_
   refine DL_c (op_slR _ _ _ inferInstance rfl rfl 0 (flt p l k).length .dflt (.lit rfl rfl) (by omega) (by omega) rfl (Nat.sub_zero _)) ?_
   refine DL_c (op_as _ (rfl : _ = AV.ref _ _ _)) ?_
   refine DL_nil (hK14 _ ?_)
   clear hK14; try clear K14
   refine D_ret ?_
   rw [← hff]
   exact ret1 (.inr rfl) rfl (.tmp (rfl : _ = AV.ref _ _ _)) (Le.outI [((0, 8), (20, 9))] [] (lvRr rfl (by omega)) rfl rfl rfl trivial ⟨⟨rfl, ⟨_, rfl, .box rfl (lv_cons .fp (lv_cons .v (lv_cons .sl (lv_cons (.fn rfl (lv_cons (lvPr rfl) lv_nil) rfl lv_nil) (lv_cons .mp (lv_cons (lvRr rfl rfl) lv_nil))))))⟩, rfl⟩, ⟨rfl, ⟨_, rfl, .mp⟩, rfl⟩, ⟨rfl, ⟨_, rfl, .rowE rfl⟩, rfl⟩, ⟨rfl, ⟨_, rfl, .box rfl (lv_cons .sl (lv_cons (lvRr rfl rfl) lv_nil))⟩, rfl⟩, ⟨rfl, ⟨_, rfl, .rowE rfl⟩, rfl⟩, ⟨rfl, ⟨_, rfl, .box rfl (lv_cons (lvPr rfl) lv_nil)⟩, rfl⟩, ⟨rfl, ⟨_, rfl, .row hzs⟩, rfl⟩, trivial⟩ ⟨rfl, rfl, rfl, rfl, rfl, rfl, trivial⟩ rfl)
theorem delC : Spec Try.prog 130 (inStI [.ref (20, 9) 0 m, .fn (.func f) [] [.fp 0 xs, .ptr (1, 0) 0]] (SS6 n P A h sc st ord ++ [((20, 9), .row 3 1 (nsl l))]))
  (outStI (.ref (0, 8) 0 (l.filter fun v => !p v).length) (SS6 n P A h sc st ord ++ [((0, 8), .row 3 1 (nsl (l.filter fun v => !p v)))]) I78 I6) := by
 rcases first_case (fun j => p (l.getD j 0)) l.length with h2 | ⟨i, h2, h3, h4⟩
 ·rw [filter_none h2, hm]; exact delC_none f C n P A h sc st ord xs m l hm h1 p hp h2
 ·exact delC_some f C n P A h sc st ord xs m l hm h1 p hp i h2 h3 h4
end
end Go.Proofs.Ytkbkmngbenohkaa

namespace Go.Proofs.Ytkbkmngbenohkaa
open Go.RowKit

theorem opK_known (n : Nat) (P A : List Nat) (hA : A.length = n) (hn : n ≤ 64) (hw : ∀ v, A.getD v 0 < 18446744073709551616) (h : Nat) (sc : List Nat) (st : List Int) (ord : List Nat) (xs ys : List PV) (v : Nat) (hv : v ∈ ord) :
  Spec Try.prog 126 (inStI [.v (.int .i64 (v : Int)), .ptr (1, 0) 0, .fp 0 xs, .fp 0 ys] (SS6 n P A h sc st ord)) (outStI (.v (.bool true)) (SS6 n P A h sc st ord) I6 I6) := by
 have hm := mmap_some (st := st) hv
 refine Spec.ofNI Try.func126 rfl Try.ntmps126 rfl ?_
 refine D_seq fun K1 hK1 => ?_
 refine D_region ?_
 refine DL_c (op_box (4, 0) _ rfl rfl) ?_
 refine DL_c (op_as _ (rfl : _ = AV.v (.bool _))) ?_
 refine DL_nil (hK1 _ ?_)
 clear hK1; try clear K1
 refine D_seq fun K2 hK2 => ?_
 refine D_seq fun K3 hK3 => ?_
 refine D_anyL 11 [9, 10, 11, 12, 13, 14, 8, 15, 16, 6, 7] [] (by kernel_rfl) (by kernel_rfl) rfl (nodupO_iff rfl) (rfl : _ = [_, _, _, _, _, _, _, _, _, _, _]) (rfl : _ = []) ?_
 refine any_c (_, []) (fun τ => op_ldB _ inferInstance rfl rfl (rfl : _ = some (AV.ptr _ _))) ?_
 refine any_n (rfl : _ = [_]) ?_
 refine any_c (_, []) (fun τ => op_nilp _ rfl rfl) ?_
 refine any_n (rfl : _ = [_, _]) ?_
 refine any_c (_, []) (fun τ => op_fldP _ inferInstance rfl rfl rfl) ?_
 refine any_n (rfl : _ = [_, _, _]) ?_
 refine any_c (_, []) (fun τ => op_ldB _ inferInstance rfl rfl (rfl : _ = some (AV.mp _))) ?_
 refine any_n (rfl : _ = [_, _, _, _]) ?_
 refine any_c (_, []) (fun τ => op_ldB _ inferInstance rfl rfl (rfl : _ = some (AV.v (.int _ _)))) ?_
 refine any_n (rfl : _ = [_, _, _, _, _]) ?_
 refine any_c (_, []) (fun τ => op_lookM _ _ Try.underlying134 Try.underlying3 Try.zeroValue3 rfl rfl rfl hm) ?_
 refine any_n (rfl : _ = [_, _, _, _, _, _]) ?_
 refine any_c (_, []) (fun τ => op_mv _ (rfl : _ = AV.tup _)) ?_
 refine any_n (rfl : _ = [_, _, _, _, _, _, _]) ?_
 refine any_c (_, []) (fun τ => op_ext _ rfl (rfl : _ = some (AV.v (.int _ _)))) ?_
 refine any_n (rfl : _ = [_, _, _, _, _, _, _, _]) ?_
 refine any_c (_, []) (fun τ => op_ext _ rfl (rfl : _ = some (AV.v (.bool _)))) ?_
 refine any_n (rfl : _ = [_, _, _, _, _, _, _, _, _]) ?_
 refine any_c (_, []) (fun τ => op_as _ (rfl : _ = AV.v (.int _ _))) ?_
 refine any_n (rfl : _ = [_, _, _, _, _, _, _, _, _, _]) ?_
 refine any_c (_, []) (fun τ => op_as _ (rfl : _ = AV.v (.bool _))) ?_
 refine any_n (rfl : _ = [_, _, _, _, _, _, _, _, _, _, _]) ?_
 refine any_end ⟨rfl, ?_⟩
 refine DL_nil (hK3 _ ?_)
 clear hK3; try clear K3
 refine D_seq fun K4 hK4 => ?_
 refine D_region ?_
 refine DL_c (op_mv _ (rfl : _ = AV.v (.bool _))) ?_
 refine DL_nil (hK4 _ ?_)
 clear hK4; try clear K4
 refine D_cT rfl rfl ?_
 refine D_seq fun K5 hK5 => ?_
 refine D_region ?_
 refine DL_c (op_as _ (rfl : _ = AV.v (.bool _))) ?_
 refine DL_nil (hK5 _ ?_)
 clear hK5; try clear K5
 refine D_ret ?_
 exact ret1 (.inr rfl) rfl (.tmp (rfl : _ = AV.v (.bool _))) (Le.outI [] [] (lvB (by rfl)) rfl rfl rfl trivial ⟨⟨rfl, ⟨_, rfl, lvO_id _⟩, rfl⟩, ⟨rfl, ⟨_, rfl, lvO_id _⟩, rfl⟩, ⟨rfl, ⟨_, rfl, lvO_id _⟩, rfl⟩, ⟨rfl, ⟨_, rfl, lvO_id _⟩, rfl⟩, ⟨rfl, ⟨_, rfl, lvO_id _⟩, rfl⟩, ⟨rfl, ⟨_, rfl, lvO_id _⟩, rfl⟩, trivial⟩ ⟨rfl, rfl, rfl, rfl, rfl, rfl, trivial⟩ rfl)
theorem opK_new (n : Nat) (P A : List Nat) (hA : A.length = n) (hn : n ≤ 64) (hw : ∀ v, A.getD v 0 < 18446744073709551616) (h : Nat) (sc : List Nat) (st : List Int) (ord : List Nat) (v : Nat) (hv : v ∉ ord) :
  Spec Try.prog 126 (inStI [.v (.int .i64 (v : Int)), .ptr (1, 0) 0, .fp 0 [.sl (tst n ord st 0).length (nsl (tst n ord st 0))], .fp 0 [.sl (tst n ord st 1).length (nsl (tst n ord st 1))]] (SS6 n P A h sc st ord))
   (outStI (.v (.bool ((tst n ord st 0).any (fun g => anR n A v g) || (tst n ord st 1).any fun b => decide (b ≠ h) && anR n A b v))) (SS6 n P A h sc st ord) I6 I6) := by
 have hm := mmap_none (st := st) hv
 have hG := tst_len n ord st 0
 have hB := tst_len n ord st 1
 have h1 := fun g => open1_spec n P A hA hn hw h sc g v
 have h2 := fun b => open2_spec n P A hA hn hw h sc b v
 generalize tst n ord st 0 = G at hG ⊢
 generalize tst n ord st 1 = B at hB ⊢
 refine Spec.ofNI Try.func126 rfl Try.ntmps126 rfl ?_
 refine D_seq fun K1 hK1 => ?_
 refine D_region ?_
 refine DL_c (op_box (4, 0) _ rfl rfl) ?_
 refine DL_c (op_as _ (rfl : _ = AV.v (.bool _))) ?_
 refine DL_nil (hK1 _ ?_)
 clear hK1; try clear K1
 refine D_seq fun K2 hK2 => ?_
 refine D_seq fun K3 hK3 => ?_
 refine D_anyL 11 [9, 10, 11, 12, 13, 14, 8, 15, 16, 6, 7] [] (by kernel_rfl) (by kernel_rfl) rfl (nodupO_iff rfl) (rfl : _ = [_, _, _, _, _, _, _, _, _, _, _]) (rfl : _ = []) ?_
 refine any_c (_, []) (fun τ => op_ldB _ inferInstance rfl rfl (rfl : _ = some (AV.ptr _ _))) ?_
 refine any_n (rfl : _ = [_]) ?_
 refine any_c (_, []) (fun τ => op_nilp _ rfl rfl) ?_
 refine any_n (rfl : _ = [_, _]) ?_
 refine any_c (_, []) (fun τ => op_fldP _ inferInstance rfl rfl rfl) ?_
 refine any_n (rfl : _ = [_, _, _]) ?_
 refine any_c (_, []) (fun τ => op_ldB _ inferInstance rfl rfl (rfl : _ = some (AV.mp _))) ?_
 refine any_n (rfl : _ = [_, _, _, _]) ?_
 refine any_c (_, []) (fun τ => op_ldB _ inferInstance rfl rfl (rfl : _ = some (AV.v (.int _ _)))) ?_
 refine any_n (rfl : _ = [_, _, _, _, _]) ?_
 refine any_c (_, []) (fun τ => op_lookM _ _ Try.underlying134 Try.underlying3 Try.zeroValue3 rfl rfl rfl hm) ?_
 refine any_n (rfl : _ = [_, _, _, _, _, _]) ?_
 refine any_c (_, []) (fun τ => op_mv _ (rfl : _ = AV.tup _)) ?_
 refine any_n (rfl : _ = [_, _, _, _, _, _, _]) ?_
 refine any_c (_, []) (fun τ => op_ext _ rfl (rfl : _ = some (AV.v (.int _ _)))) ?_
 refine any_n (rfl : _ = [_, _, _, _, _, _, _, _]) ?_
 refine any_c (_, []) (fun τ => op_ext _ rfl (rfl : _ = some (AV.v (.bool _)))) ?_
 refine any_n (rfl : _ = [_, _, _, _, _, _, _, _, _]) ?_
 refine any_c (_, []) (fun τ => op_as _ (rfl : _ = AV.v (.int _ _))) ?_
 refine any_n (rfl : _ = [_, _, _, _, _, _, _, _, _, _]) ?_
 refine any_c (_, []) (fun τ => op_as _ (rfl : _ = AV.v (.bool _))) ?_
 refine any_n (rfl : _ = [_, _, _, _, _, _, _, _, _, _, _]) ?_
 refine any_end ⟨rfl, ?_⟩
 refine DL_nil (hK3 _ ?_)
 clear hK3; try clear K3
 refine D_seq fun K4 hK4 => ?_
 refine D_region ?_
 refine DL_c (op_mv _ (rfl : _ = AV.v (.bool _))) ?_
 refine DL_nil (hK4 _ ?_)
 clear hK4; try clear K4
 refine D_cF rfl rfl ?_
 refine D_skip (hK2 _ ?_)
 clear hK2; try clear K2
 refine D_seq fun K5 hK5 => ?_
 refine D_region ?_
 refine DL_c (op_ldF _ inferInstance rfl (rfl : _ = some (PV.sl G.length (nsl G))) rfl) ?_
 refine DL_c (op_mf _ _ (rfl : _ = []) (rfl : _ = [_, _])) ?_
 refine DL_c (op_callBD inferInstance (argsD_cons (.inl Lv.sl) (argsD_cons (argD (.fn rfl ln_nil rfl (ln_cons (.ptr rfl (Nat.le_refl _) (ln_cons (lnS rfl) ln_nil)) (ln_cons (.ptr rfl (Nat.le_refl _) (ln_cons (.v rfl) ln_nil)) ln_nil))) rfl) argsD_nil)) (containsN_spec 127 inferInstance [.fp 0 [.ptr 0 (sP n P A h sc)], .fp 0 [.v (.int .i64 (v : Int))]] rfl (fun _ => rfl) G.length G rfl (by omega) (fun g => anR n A v g) h1) rfl) ?_
 refine DL_c (op_mv _ (rfl : _ = AV.v (.bool _))) ?_
 refine DL_caseC (fun hg21 => ?_) (fun hg21 => ?_)
 ·skip
  refine DL_cn rfl rfl (by decide) ?_
  refine DL_cn rfl rfl (by decide) ?_
  refine DL_cn rfl rfl (by decide) ?_
  refine DL_c (op_pick _ _ _ rfl (rfl : _ = AV.v (.bool _))) ?_
  refine DL_c (op_as _ (rfl : _ = AV.v (.bool _))) ?_
  refine DL_nil (hK5 _ ?_)
  clear hK5; try clear K5
  refine D_ret ?_
  exact ret1 (.inr rfl) rfl (.tmp (rfl : _ = AV.v (.bool _))) (Le.outI [] [] (lvB (by rw [hg21, Bool.true_or])) rfl rfl rfl trivial ⟨⟨rfl, ⟨_, rfl, lvO_id _⟩, rfl⟩, ⟨rfl, ⟨_, rfl, lvO_id _⟩, rfl⟩, ⟨rfl, ⟨_, rfl, lvO_id _⟩, rfl⟩, ⟨rfl, ⟨_, rfl, lvO_id _⟩, rfl⟩, ⟨rfl, ⟨_, rfl, lvO_id _⟩, rfl⟩, ⟨rfl, ⟨_, rfl, lvO_id _⟩, rfl⟩, trivial⟩ ⟨rfl, rfl, rfl, rfl, rfl, rfl, trivial⟩ rfl)
 ·skip
  refine DL_cy rfl rfl (op_ldF _ inferInstance rfl (rfl : _ = some (PV.sl B.length (nsl B))) rfl) ?_
  refine DL_cy rfl rfl (op_mf _ _ (rfl : _ = []) (rfl : _ = [_, _])) ?_
  refine DL_cy rfl rfl (op_callBD inferInstance (argsD_cons (.inl Lv.sl) (argsD_cons (argD (.fn rfl ln_nil rfl (ln_cons (.ptr rfl (Nat.le_refl _) (ln_cons (lnS rfl) ln_nil)) (ln_cons (.ptr rfl (Nat.le_refl _) (ln_cons (.v rfl) ln_nil)) ln_nil))) rfl) argsD_nil)) (containsN_spec 129 inferInstance [.fp 0 [.ptr 0 (sP n P A h sc)], .fp 0 [.v (.int .i64 (v : Int))]] rfl (fun _ => rfl) B.length B rfl (by omega) (fun b => decide (b ≠ h) && anR n A b v) h2) rfl) ?_
  refine DL_c (op_pick _ _ _ rfl (rfl : _ = AV.v (.bool _))) ?_
  refine DL_c (op_as _ (rfl : _ = AV.v (.bool _))) ?_
  refine DL_nil (hK5 _ ?_)
  clear hK5; try clear K5
  refine D_ret ?_
  exact ret1 (.inr rfl) rfl (.tmp (rfl : _ = AV.v (.bool _))) (Le.outI [] [] (lvB (by rw [hg21, Bool.false_or])) rfl rfl rfl trivial ⟨⟨rfl, ⟨_, rfl, lvO_id _⟩, rfl⟩, ⟨rfl, ⟨_, rfl, lvO_id _⟩, rfl⟩, ⟨rfl, ⟨_, rfl, lvO_id _⟩, rfl⟩, ⟨rfl, ⟨_, rfl, lvO_id _⟩, rfl⟩, ⟨rfl, ⟨_, rfl, lvO_id _⟩, rfl⟩, ⟨rfl, ⟨_, rfl, lvO_id _⟩, rfl⟩, trivial⟩ ⟨rfl, rfl, rfl, rfl, rfl, rfl, trivial⟩ rfl)
theorem opK_spec (n : Nat) (P A : List Nat) (hA : A.length = n) (hn : n ≤ 64) (hw : ∀ v, A.getD v 0 < 18446744073709551616) (h : Nat) (sc : List Nat) (st : List Int) (ord : List Nat) (v : Nat) :
  Spec Try.prog 126 (inStI [.v (.int .i64 (v : Int)), .ptr (1, 0) 0, .fp 0 [.sl (tst n ord st 0).length (nsl (tst n ord st 0))], .fp 0 [.sl (tst n ord st 1).length (nsl (tst n ord st 1))]] (SS6 n P A h sc st ord))
   (outStI (.v (.bool (stl (anR n A) n ord st h v))) (SS6 n P A h sc st ord) I6 I6) := by
 unfold stl
 by_cases hv : v ∈ ord
 ·rw [decide_eq_true hv, Bool.true_or]; exact opK_known n P A hA hn hw h sc st ord _ _ v hv
 ·rw [decide_eq_false hv, Bool.false_or]; exact opK_new n P A hA hn hw h sc st ord v hv
theorem cdK_spec (n : Nat) (P A : List Nat) (hA : A.length = n) (hn : n ≤ 64) (hw : ∀ v, A.getD v 0 < 18446744073709551616) (h : Nat) (sc : List Nat) (st : List Int) (ord : List Nat) (v : Nat) :
  Spec Try.prog 132 (inStI [.v (.int .i64 (v : Int)), .fp 0 [.sl (tst n ord st 1).length (nsl (tst n ord st 1))], .ptr (1, 0) 0] (SS6 n P A h sc st ord))
   (outStI (.v (.bool ((tst n ord st 1).any fun b => decide (b ≠ v) && anR n A b v))) (SS6 n P A h sc st ord) I6 I6) := by
 have hB := tst_len n ord st 1
 have h1 := fun b => cand1_spec n P A hA hn hw h sc b v
 generalize tst n ord st 1 = B at hB ⊢
 refine Spec.ofNI Try.func132 rfl Try.ntmps132 rfl ?_
 refine D_seq fun K1 hK1 => ?_
 refine D_region ?_
 refine DL_c (op_box (3, 0) _ rfl rfl) ?_
 refine DL_c (op_as _ (rfl : _ = AV.v (.bool _))) ?_
 refine DL_nil (hK1 _ ?_)
 clear hK1; try clear K1
 refine D_seq fun K2 hK2 => ?_
 refine D_region ?_
 refine DL_c (op_ldF _ inferInstance rfl (rfl : _ = some (PV.sl B.length (nsl B))) rfl) ?_
 refine DL_c (op_mf _ _ (rfl : _ = []) (rfl : _ = [_, _])) ?_
 refine DL_c (op_callBD inferInstance (argsD_cons (.inl Lv.sl) (argsD_cons (argD (.fn rfl ln_nil rfl (ln_cons (.ptr rfl (Nat.le_refl _) (ln_cons (.v rfl) ln_nil)) (ln_cons (.ptr rfl (Nat.le_refl _) (ln_cons (lnS rfl) ln_nil)) ln_nil))) rfl) argsD_nil)) (containsN_spec 133 inferInstance [.fp 0 [.v (.int .i64 (v : Int))], .fp 0 [.ptr 0 (sP n P A h sc)]] rfl (fun _ => rfl) B.length B rfl (by omega) (fun b => decide (b ≠ v) && anR n A b v) h1) rfl) ?_
 refine DL_c (op_as _ (rfl : _ = AV.v (.bool _))) ?_
 refine DL_nil (hK2 _ ?_)
 clear hK2; try clear K2
 refine D_ret ?_
 exact ret1 (.inr rfl) rfl (.tmp (rfl : _ = AV.v (.bool _))) (Le.outI [] [] (lvB (by rfl)) rfl rfl rfl trivial ⟨⟨rfl, ⟨_, rfl, lvO_id _⟩, rfl⟩, ⟨rfl, ⟨_, rfl, lvO_id _⟩, rfl⟩, ⟨rfl, ⟨_, rfl, lvO_id _⟩, rfl⟩, ⟨rfl, ⟨_, rfl, lvO_id _⟩, rfl⟩, ⟨rfl, ⟨_, rfl, lvO_id _⟩, rfl⟩, ⟨rfl, ⟨_, rfl, lvO_id _⟩, rfl⟩, trivial⟩ ⟨rfl, rfl, rfl, rfl, rfl, rfl, trivial⟩ rfl)
set_option maxHeartbeats 2000000 in
theorem open_spec (n : Nat) (P A : List Nat) (hA : A.length = n) (hn : n ≤ 64) (hw : ∀ v, A.getD v 0 < 18446744073709551616) (h : Nat) (sc : List Nat) (st : List Int) (ord : List Nat) (ho : ok1 n ord) (h0 : 0 < sc.length) (h1 : sc.length ≤ 1000) :
  Spec Try.prog 108 (inStI [.ptr (0, 9) 0] (SSL n P A h sc st ord)) (outStI (.ref (0, 8) 0 (opn (anR n A) n ord st h sc).length) (SSL n P A h sc st ord ++ [((0, 8), .row 3 1 (nsl (opn (anR n A) n ord st h sc)))]) I5 I5) := by
 have hT := fun s => tested_spec n P A hn h sc st ord ho s
 have hD := delO 126 inferInstance n P A h sc st ord [.sl (tst n ord st 0).length (nsl (tst n ord st 0))] [.sl (tst n ord st 1).length (nsl (tst n ord st 1))] sc.length sc rfl (by omega) (stl (anR n A) n ord st h) (opK_spec n P A hA hn hw h sc st ord)
 rw [show (sc.filter fun v => !stl (anR n A) n ord st h v) = opn (anR n A) n ord st h sc from rfl] at hD
 generalize opn (anR n A) n ord st h sc = O at hD ⊢
 refine Spec.ofNI Try.func108 rfl Try.ntmps108 rfl ?_
 refine D_seq fun K1 hK1 => ?_
 refine D_region ?_
 refine DL_c (op_box (1, 0) _ rfl rfl) ?_
 refine DL_c (op_as _ (rfl : _ = AV.v (.slice _ _ _))) ?_
 refine DL_nil (hK1 _ ?_)
 clear hK1; try clear K1
 refine D_seq fun K2 hK2 => ?_
 refine D_anyL 6 [6, 7, 8, 9, 3, 4] [(60, 0), (61, 0), (3, 0), (4, 0)] (by kernel_rfl) (by kernel_rfl) rfl (nodupO_iff rfl) (rfl : _ = [_, _, _, _, _, _]) (rfl : _ = [_, _]) ?_
 refine any_c (_, []) (fun τ => op_ldB _ inferInstance rfl rfl (rfl : _ = some (AV.ptr _ _))) ?_
 refine any_n (rfl : _ = [_]) ?_
 refine any_c (_, [((60, 0), _)]) (fun τ => (op_callK inferInstance (60, 0) _ _ (by repeat' (first | exact argsR_nil | refine argsR_cons ?_ ?_ | exact Lv.v | exact lvPr rfl)) (hT 0) ⟨rfl, rfl, rfl, rfl, rfl, trivial⟩ rfl rfl rfl (by kernel_rfl) (by simp))) ?_
 refine any_n (rfl : _ = [_, _]) ?_
 refine any_c (_, []) (fun τ => op_ldB _ inferInstance rfl rfl (rfl : _ = some (AV.ptr _ _))) ?_
 refine any_n (rfl : _ = [_, _, _]) ?_
 refine any_c (_, [((61, 0), _)]) (fun τ => (op_callK inferInstance (61, 0) _ _ (by repeat' (first | exact argsR_nil | refine argsR_cons ?_ ?_ | exact Lv.v | exact lvPr rfl)) (hT 1) ⟨rfl, rfl, rfl, rfl, rfl, trivial⟩ rfl rfl rfl (by kernel_rfl) (by simp))) ?_
 refine any_n (rfl : _ = [_, _, _, _]) ?_
 refine any_c (_, [((3, 0), _)]) (fun τ => op_alloc (3, 0) inferInstance rfl rfl) ?_
 refine any_n (rfl : _ = [_, _, _, _, _]) ?_
 refine any_c (_, [((4, 0), _)]) (fun τ => op_alloc (4, 0) inferInstance rfl rfl) ?_
 refine any_n (rfl : _ = [_, _, _, _, _, _]) ?_
 refine any_end ⟨rfl, ?_⟩
 refine DL_c (op_stB _ _ inferInstance rfl rfl rfl rfl (Nat.le_of_ble_eq_true rfl) rfl) ?_
 refine DL_c (op_stB _ _ inferInstance rfl rfl rfl rfl (Nat.le_of_ble_eq_true rfl) rfl) ?_
 refine DL_nil (hK2 _ ?_)
 clear hK2; try clear K2
 refine D_seq fun K3 hK3 => ?_
 refine D_le (Le.trans (Le.frzPt 4 (rfl : _ = AV.ptr (4, 0) 0) rfl rfl rfl) (Le.trans (Le.frzPt 3 (rfl : _ = AV.ptr (3, 0) 0) rfl rfl rfl) (Le.trans (Le.frzB (ys := nsl (tst n ord st 1)) (4, 0) 0 rfl rfl rfl rfl (by rw [List.drop_zero, Nat.mul_one, List.take_of_length_le (by simp)]) (by simp)) (Le.frzB (ys := nsl (tst n ord st 0)) (3, 0) 0 rfl rfl rfl rfl (by rw [List.drop_zero, Nat.mul_one, List.take_of_length_le (by simp)]) (by simp))))) ?_
 refine D_region ?_
 refine DL_c (op_mf _ _ (rfl : _ = []) (rfl : _ = [_, _, _])) ?_
 refine DL_c (op_as _ (rfl : _ = AV.fn _ _ _)) ?_
 refine DL_nil (hK3 _ ?_)
 clear hK3; try clear K3
 refine D_seq fun K4 hK4 => ?_
 refine D_region ?_
 refine DL_c (op_ldB _ inferInstance rfl rfl (rfl : _ = some (AV.ptr _ _))) ?_
 refine DL_c (op_nilp _ rfl rfl) ?_
 refine DL_c (op_fldP _ inferInstance rfl rfl rfl) ?_
 refine DL_c (op_ldB _ inferInstance rfl rfl (rfl : _ = some (AV.sl _ _))) ?_
 refine DL_c (op_callP inferInstance [((0, 8), (62, 0))] ?_ ((clone_own sc.length sc rfl h0 (by omega)).toI) trivial ⟨rfl, trivial⟩ (by kernel_rfl)) ?_
 ·repeat' (first | exact argsR_nil | refine argsR_cons ?_ ?_ | exact Lv.sl)
 refine DL_c (op_mv _ (rfl : _ = AV.fn _ _ _)) ?_
 refine DL_c (op_callP inferInstance [((20, 9), (62, 0)), ((0, 8), (63, 0))] ?_ (hD) ⟨⟨rfl, ⟨_, rfl, .box rfl (lv_cons .fp (lv_cons .v (lv_cons .sl (lv_cons (.fn rfl (lv_cons (lvPr rfl) lv_nil) rfl lv_nil) (lv_cons .mp (lv_cons (lvRr rfl rfl) lv_nil))))))⟩, rfl⟩, ⟨rfl, ⟨_, rfl, .mp⟩, rfl⟩, ⟨rfl, ⟨_, rfl, .rowE rfl⟩, rfl⟩, ⟨rfl, ⟨_, rfl, .box rfl (lv_cons .sl (lv_cons (lvRr rfl rfl) lv_nil))⟩, rfl⟩, ⟨rfl, ⟨_, rfl, .rowE rfl⟩, rfl⟩, ⟨rfl, ⟨_, rfl, .box rfl (lv_cons (lvPr rfl) lv_nil)⟩, rfl⟩, ⟨rfl, ⟨_, rfl, .rowE rfl⟩, rfl⟩, trivial⟩ ⟨rfl, rfl, rfl, rfl, rfl, rfl, rfl, trivial⟩ (by kernel_rfl)) ?_
 ·repeat' (first | exact argsR_nil | refine argsR_cons ?_ ?_ | exact Lv.fp | exact lvRr rfl rfl | exact lvPr rfl | refine Lv.fn rfl ?_ rfl ?_ | exact lv_nil | refine lv_cons ?_ ?_)
 refine DL_c (op_as _ (rfl : _ = AV.ref _ _ _)) ?_
 refine DL_nil (hK4 _ ?_)
 clear hK4; try clear K4
 refine D_ret ?_
 exact ret1 (.inr rfl) rfl (.tmp (rfl : _ = AV.ref _ _ _)) (Le.outI [((0, 8), (63, 0))] [] (lvRr rfl rfl) rfl rfl rfl trivial ⟨⟨rfl, ⟨_, rfl, .box rfl (lv_cons .fp (lv_cons .v (lv_cons .sl (lv_cons (.fn rfl (lv_cons (lvPr rfl) lv_nil) rfl lv_nil) (lv_cons .mp (lv_cons (lvRr rfl rfl) lv_nil))))))⟩, rfl⟩, ⟨rfl, ⟨_, rfl, .mp⟩, rfl⟩, ⟨rfl, ⟨_, rfl, .rowE rfl⟩, rfl⟩, ⟨rfl, ⟨_, rfl, .box rfl (lv_cons .sl (lv_cons (lvRr rfl rfl) lv_nil))⟩, rfl⟩, ⟨rfl, ⟨_, rfl, .rowE rfl⟩, rfl⟩, ⟨rfl, ⟨_, rfl, .rowE rfl⟩, rfl⟩, trivial⟩ ⟨rfl, rfl, rfl, rfl, rfl, trivial⟩ rfl)
set_option maxHeartbeats 2000000 in
theorem cnd_spec (n : Nat) (P A : List Nat) (hA : A.length = n) (hn : n ≤ 64) (hw : ∀ v, A.getD v 0 < 18446744073709551616) (h : Nat) (sc : List Nat) (st : List Int) (ord : List Nat) (ho : ok1 n ord) (h0 : 0 < (tst n ord st 1).length) :
  Spec Try.prog 111 (inStI [.ptr (0, 9) 0] (SSL n P A h sc st ord)) (outStI (.ref (0, 8) 0 (cnd (anR n A) n ord st).length) (SSL n P A h sc st ord ++ [((0, 8), .row 3 1 (nsl (cnd (anR n A) n ord st)))]) I5 I5) := by
 have hT := tested_spec n P A hn h sc st ord ho 1
 have hB := tst_len n ord st 1
 have hD := delC 132 inferInstance n P A h sc st ord [.sl (tst n ord st 1).length (nsl (tst n ord st 1))] (tst n ord st 1).length (tst n ord st 1) rfl (by omega) (fun v => (tst n ord st 1).any fun b => decide (b ≠ v) && anR n A b v) (cdK_spec n P A hA hn hw h sc st ord)
 rw [show ((tst n ord st 1).filter fun v => !(tst n ord st 1).any fun b => decide (b ≠ v) && anR n A b v) = cnd (anR n A) n ord st from rfl] at hD
 generalize cnd (anR n A) n ord st = O at hD ⊢
 refine Spec.ofNI Try.func111 rfl Try.ntmps111 rfl ?_
 refine D_seq fun K1 hK1 => ?_
 refine D_region ?_
 refine DL_c (op_box (1, 0) _ rfl rfl) ?_
 refine DL_c (op_as _ (rfl : _ = AV.v (.slice _ _ _))) ?_
 refine DL_nil (hK1 _ ?_)
 clear hK1; try clear K1
 refine D_seq fun K2 hK2 => ?_
 refine D_region ?_
 refine DL_c (op_ldB _ inferInstance rfl rfl (rfl : _ = some (AV.ptr _ _))) ?_
 refine DL_c (op_callK inferInstance (60, 0) _ _ (by repeat' (first | exact argsR_nil | refine argsR_cons ?_ ?_ | exact Lv.v | exact lvPr rfl)) (hT) ⟨rfl, rfl, rfl, rfl, rfl, trivial⟩ rfl rfl rfl (by kernel_rfl) (by simp)) ?_
 refine DL_c (op_alloc (3, 0) inferInstance rfl rfl) ?_
 refine DL_c (op_stB _ _ inferInstance rfl rfl rfl rfl (Nat.le_of_ble_eq_true rfl) rfl) ?_
 refine DL_nil (hK2 _ ?_)
 clear hK2; try clear K2
 refine D_seq fun K3 hK3 => ?_
 refine D_le (Le.trans (Le.frzPt 3 (rfl : _ = AV.ptr (3, 0) 0) rfl rfl rfl) (Le.frzB (ys := nsl (tst n ord st 1)) (3, 0) 0 rfl rfl rfl rfl (by rw [List.drop_zero, Nat.mul_one, List.take_of_length_le (by simp)]) (by simp))) ?_
 refine D_region ?_
 refine DL_c (op_ldF _ inferInstance rfl (rfl : _ = some (PV.sl (tst n ord st 1).length (nsl (tst n ord st 1)))) rfl) ?_
 refine DL_c (op_callP inferInstance [((0, 8), (62, 0))] ?_ ((clone_own (tst n ord st 1).length (tst n ord st 1) rfl h0 (by omega)).toI) trivial ⟨rfl, trivial⟩ (by kernel_rfl)) ?_
 ·repeat' (first | exact argsR_nil | refine argsR_cons ?_ ?_ | exact Lv.sl)
 refine DL_c (op_mf _ _ (rfl : _ = []) (rfl : _ = [_, _])) ?_
 refine DL_c (op_callP inferInstance [((20, 9), (62, 0)), ((0, 8), (63, 0))] ?_ (hD) ⟨⟨rfl, ⟨_, rfl, .box rfl (lv_cons .fp (lv_cons .v (lv_cons .sl (lv_cons (.fn rfl (lv_cons (lvPr rfl) lv_nil) rfl lv_nil) (lv_cons .mp (lv_cons (lvRr rfl rfl) lv_nil))))))⟩, rfl⟩, ⟨rfl, ⟨_, rfl, .mp⟩, rfl⟩, ⟨rfl, ⟨_, rfl, .rowE rfl⟩, rfl⟩, ⟨rfl, ⟨_, rfl, .box rfl (lv_cons .sl (lv_cons (lvRr rfl rfl) lv_nil))⟩, rfl⟩, ⟨rfl, ⟨_, rfl, .rowE rfl⟩, rfl⟩, ⟨rfl, ⟨_, rfl, .box rfl (lv_cons (lvPr rfl) lv_nil)⟩, rfl⟩, ⟨rfl, ⟨_, rfl, .rowE rfl⟩, rfl⟩, trivial⟩ ⟨rfl, rfl, rfl, rfl, rfl, rfl, rfl, trivial⟩ (by kernel_rfl)) ?_
 ·repeat' (first | exact argsR_nil | refine argsR_cons ?_ ?_ | exact Lv.fp | exact lvRr rfl rfl | exact lvPr rfl | refine Lv.fn rfl ?_ rfl ?_ | exact lv_nil | refine lv_cons ?_ ?_)
 refine DL_c (op_as _ (rfl : _ = AV.ref _ _ _)) ?_
 refine DL_nil (hK3 _ ?_)
 clear hK3; try clear K3
 refine D_ret ?_
 exact ret1 (.inr rfl) rfl (.tmp (rfl : _ = AV.ref _ _ _)) (Le.outI [((0, 8), (63, 0))] [] (lvRr rfl rfl) rfl rfl rfl trivial ⟨⟨rfl, ⟨_, rfl, .box rfl (lv_cons .fp (lv_cons .v (lv_cons .sl (lv_cons (.fn rfl (lv_cons (lvPr rfl) lv_nil) rfl lv_nil) (lv_cons .mp (lv_cons (lvRr rfl rfl) lv_nil))))))⟩, rfl⟩, ⟨rfl, ⟨_, rfl, .mp⟩, rfl⟩, ⟨rfl, ⟨_, rfl, .rowE rfl⟩, rfl⟩, ⟨rfl, ⟨_, rfl, .box rfl (lv_cons .sl (lv_cons (lvRr rfl rfl) lv_nil))⟩, rfl⟩, ⟨rfl, ⟨_, rfl, .rowE rfl⟩, rfl⟩, ⟨rfl, ⟨_, rfl, .rowE rfl⟩, rfl⟩, trivial⟩ ⟨rfl, rfl, rfl, rfl, rfl, trivial⟩ rfl)
end Go.Proofs.Ytkbkmngbenohkaa

namespace Go.Proofs.Ytkbkmngbenohkaa
open Go.RowKit

theorem bls_len {vs : Nat → VS → VS × Bool} {n : Nat} : ∀ (l : List Nat) (q : BS), (vlist (bstep vs n) l q).2 = true → (vlist (bstep vs n) l q).1.2.length = q.2.length + l.length
 | [], q, _ => by simp [vlist]
 | v :: l, q, h => by
  cases hs : (vs v (q.1, [])).2 with
  | true =>
   have e : bstep vs n v q = (((vs v (q.1, [])).1.1, q.2 ++ [(v, fil n (vs v (q.1, [])).1.2)]), true) := by unfold bstep; rw [if_pos hs]
   simp only [vlist, e, if_true] at h ⊢
   rw [bls_len l _ h]
   simp only [List.length_append, List.length_cons, List.length_nil]; omega
  | false =>
   have e : bstep vs n v q = (((vs v (q.1, [])).1.1, q.2), false) := by unfold bstep; rw [if_neg (by simp [hs])]
   simp only [vlist, e] at h
   cases h
theorem adN_new {ord : List Nat} {v : Nat} (h : v ∉ ord) : adN ord v = ord ++ [v] := if_neg h
/-- What Find leaves. -/
def fOut (st : List Int) : BS × Bool → St
 | ((ord, bl), true) => outStI (.tup [.ref (0, 8) 0 bl.length, .ref (2, 8) 0 ord.length, .v (.int .i64 0)]) [((3, 9), .box 93 [.sl st.length (isl st), .ref (4, 8) 0 ord.length]), ((4, 8), .row 3 1 (nsl ord)), ((0, 8), .row 75 2 (blR bl)), ((2, 8), .row 3 1 (nsl ord))] [(3, 9)] [(3, 9)]
 | ((ord, _), false) => outStI (.tup [.v (.slice none 0 0), .v (.slice none 0 0), .v (.int .i64 42)]) [((3, 9), .box 93 [.sl st.length (isl st), .ref (4, 8) 0 ord.length]), ((4, 8), .row 3 1 (nsl ord))] [(3, 9)] [(3, 9)]
theorem find_ver (n : Nat) (P A : List Nat) (hP : P.length = n) (hA : A.length = n) (hn : n ≤ 64) (hwP : ∀ v, P.getD v 0 < 18446744073709551616) (hwA : ∀ v, A.getD v 0 < 18446744073709551616) (hpar : ∀ v p : Nat, p ∈ wat n P (v : Int) → p < n) (st : List Int) (h1 : st.length ≤ 4611686018427387904) (h : Nat) (hh : h < n) (hs : nst st h ≠ 1) :
  Spec Try.prog 72 (inStI [.fp 0 (gra n P A), .v (.int .i64 (h : Int)), .fn (.func 73) [.ptr (3, 9) 0] []] [((3, 9), .box 93 [.sl st.length (isl st), .v (.slice none 0 0)])]) (outStI (.tup [.v (.slice none 0 0), .v (.slice none 0 0), .v (.int .i64 41)]) [((3, 9), .box 93 [.sl st.length (isl st), .ref (4, 8) 0 [h].length]), ((4, 8), .row 3 1 (nsl [h]))] [(3, 9)] [(3, 9)]) := by
 have hl := vlen_spec n P A
 have hanc := ancestors_spec n P A hA hn hwA (h : Int)
 have htry := try_spec n P A hn h (wat n A (h : Int)) st h1 [] ⟨List.nodup_nil, fun v hv => by simp at hv⟩ h
 rw [adN_new (by simp), List.nil_append] at htry
 refine Spec.ofNI Try.func72 rfl Try.ntmps72 rfl ?_
 refine D_seq fun K1 hK1 => ?_
 refine D_region ?_
 refine DL_c (op_as _ (rfl : _ = AV.v (.slice _ _ _))) ?_
 refine DL_c (op_as _ (rfl : _ = AV.v (.slice _ _ _))) ?_
 refine DL_c (op_as _ (rfl : _ = AV.v (.int _ _))) ?_
 refine DL_nil (hK1 _ ?_)
 clear hK1; try clear K1
 refine D_seq fun K2 hK2 => ?_
 refine D_seq fun K3 hK3 => ?_
 refine D_region ?_
 refine DL_c (op_mv _ (rfl : _ = AV.v (.int _ _))) ?_
 refine DL_c (op_lss _ _ rfl rfl rfl) ?_
 refine DL_c (op_mv _ (rfl : _ = AV.v (.bool _))) ?_
 refine DL_caseC (fun hg18 => ?_) (fun hg18 => ?_)
 ·skip
  exact absurd  hg18 (by omega)
 ·skip
  refine DL_cy rfl rfl (op_mv _ (rfl : _ = AV.v (.int _ _))) ?_
  refine DL_cy rfl rfl (op_mv _ (rfl : _ = AV.fp _ _)) ?_
  refine DL_cy rfl rfl (op_callH inferInstance (by repeat' (first | exact argsLv_nil | refine argsLv_cons ?_ ?_ | exact Lv.fp)) (hl) rfl rfl) ?_
  refine DL_cy rfl rfl (op_geq _ _ rfl rfl rfl) ?_
  refine DL_c (op_pick _ _ _ rfl (rfl : _ = AV.v (.bool _))) ?_
  refine DL_nil (hK3 _ ?_)
  clear hK3; try clear K3
  refine D_splitC rfl (fun hc23 => ?_) (fun hc23 => ?_)
  ·skip
   exact absurd  hc23 (by omega)
  ·skip
   refine D_skip (hK2 _ ?_)
   clear hK2; try clear K2
   refine D_seq fun K4 hK4 => ?_
   refine D_region ?_
   refine DL_c (op_mv _ (rfl : _ = AV.fp _ _)) ?_
   refine DL_c (op_mv _ (rfl : _ = AV.v (.int _ _))) ?_
   refine DL_c (op_mv _ (rfl : _ = AV.fp _ _)) ?_
   refine DL_c (op_mv _ (rfl : _ = AV.v (.int _ _))) ?_
   refine DL_c (op_callH inferInstance (by repeat' (first | exact argsLv_nil | refine argsLv_cons ?_ ?_ | exact Lv.v | exact Lv.fp)) (hanc) rfl rfl) ?_
   refine DL_c (op_mv _ (rfl : _ = AV.fn _ _ _)) ?_
   refine DL_c (op_mkM (30, 0) rfl) ?_
   refine DL_c (op_build _ inferInstance rfl (by exact (rfl : _ = some [_, _, _, _, _, _]))) ?_
   refine DL_c (op_box (32, 0) _ rfl rfl) ?_
   refine DL_c (op_as _ (rfl : _ = AV.ptr _ _)) ?_
   refine DL_nil (hK4 _ ?_)
   clear hK4; try clear K4
   refine D_seq fun K5 hK5 => ?_
   refine D_seq fun K6 hK6 => ?_
   refine D_le (σ' := mkStI 78 [(1, _), (9, .ptr (0, 9) _)] [((3, 9), _), ((1, 9), _), ((0, 9), .box _ [_, _, _, _, .mp (1, 9), _])] [(3, 9)] [(3, 9)]) (by
    refine Le.mkJ [((0, 9), (32, 0)), ((1, 9), (30, 0))] [] rfl ?_ ?_ trivial ⟨rfl, trivial⟩ ?_
    ·exact ⟨(lvW [(3, 9)] rfl (rfl : _ = AV.v _) rfl), (lvPr rfl), trivial⟩
    ·exact ⟨(obW [(3, 9)] rfl rfl rfl rfl rfl), (by exact obM rfl rfl rfl rfl rfl), (obB rfl rfl rfl rfl (lv_cons (by exact lvW [(3, 9)] rfl (rfl : _ = AV.fp _ _) rfl) (lv_cons (by exact lvW [(3, 9)] rfl (rfl : _ = AV.v _) rfl) (lv_cons (by exact lvW [(3, 9)] rfl (rfl : _ = AV.sl _ _) rfl) (lv_cons (by exact lvW [(3, 9)] rfl (rfl : _ = AV.fn _ _ _) rfl) (lv_cons (by repeat' (exact Lv.mp)) (lv_cons (by exact lvW [(3, 9)] rfl (rfl : _ = AV.v _) rfl) lv_nil))))))), trivial⟩
    ·kernel_rfl) ?_
   refine D_le (Le.trans (Le.nilB (3, 9) 1 (4, 9) 3 1 rfl rfl rfl) (Le.nilB (0, 9) 5 (2, 9) 3 1 rfl rfl rfl)) ?_
   refine D_region ?_
   refine DL_c (op_mv _ (rfl : _ = AV.ptr _ _)) ?_
   refine DL_c (op_mv _ (rfl : _ = AV.v (.int _ _))) ?_
   refine DL_c (op_callP inferInstance [((2, 8), (62, 0)), ((4, 8), (64, 0))] ?_ (htry) (insK ⟨rfl, rfl, rfl, rfl, rfl, trivial⟩ rfl rfl) ⟨rfl, rfl, rfl, rfl, rfl, trivial⟩ (by kernel_rfl)) ?_
   ·repeat' (first | exact argsR_nil | refine argsR_cons ?_ ?_ | exact Lv.v | exact lvPr rfl)
   refine DL_c (op_neq _ _ rfl rfl rfl) ?_
   refine DL_nil (hK6 _ ?_)
   clear hK6; try clear K6
   refine D_splitC rfl (fun hc36 => ?_) (fun hc36 => ?_)
   ·skip
    refine D_seq fun K7 hK7 => ?_
    refine D_region ?_
    refine DL_c (op_as _ (rfl : _ = AV.v (.slice _ _ _))) ?_
    refine DL_c (op_as _ (rfl : _ = AV.v (.slice _ _ _))) ?_
    refine DL_c (op_as _ (rfl : _ = AV.v (.int _ _))) ?_
    refine DL_nil (hK7 _ ?_)
    clear hK7; try clear K7
    refine D_ret ?_
    exact ret3 (.inr rfl) rfl (.tmp (rfl : _ = AV.v _)) (.tmp (rfl : _ = AV.v _)) (.tmp (rfl : _ = AV.v _)) (Le.outI [((4, 8), (64, 0))] [] (.tup rfl (lv_cons .v (lv_cons .v (lv_cons .v lv_nil)))) rfl rfl rfl trivial ⟨⟨rfl, ⟨_, rfl, .box rfl (lv_cons .sl (lv_cons (lvRr rfl rfl) lv_nil))⟩, rfl⟩, ⟨rfl, ⟨_, rfl, .rowE rfl⟩, rfl⟩, trivial⟩ ⟨rfl, trivial⟩ rfl)
   ·skip
    exact absurd  hc36 hs
set_option maxHeartbeats 8000000 in
theorem find_spec (n : Nat) (P A : List Nat) (hP : P.length = n) (hA : A.length = n) (hn : n ≤ 64) (hwP : ∀ v, P.getD v 0 < 18446744073709551616) (hwA : ∀ v, A.getD v 0 < 18446744073709551616) (hpar : ∀ v p : Nat, p ∈ wat n P (v : Int) → p < n) (st : List Int) (h1 : st.length ≤ 4611686018427387904) (h : Nat) (hh : h < n) (hs : nst st h = 1) (hself : h ∈ wat n A (h : Int)) (hscn : ∀ v ∈ wat n A (h : Int), v < n) :
  Spec Try.prog 72 (inStI [.fp 0 (gra n P A), .v (.int .i64 (h : Int)), .fn (.func 73) [.ptr (3, 9) 0] []] [((3, 9), .box 93 [.sl st.length (isl st), .v (.slice none 0 0)])]) (fOut st (fnd (anR n A) n (fun v => wat n P (v : Int)) st h (wat n A (h : Int)))) := by
 have hl := vlen_spec n P A
 have hanc := ancestors_spec n P A hA hn hwA (h : Int)
 have hscl := wat_len (n := n) A (h : Int)
 have htry := try_spec n P A hn h (wat n A (h : Int)) st h1 [] ⟨List.nodup_nil, fun v hv => by simp at hv⟩ h
 rw [adN_new (by simp), List.nil_append] at htry
 generalize wat n A (h : Int) = sc at *
 have hsc0 : 0 < sc.length := List.length_pos_of_mem hself
 have hok0 : ok1 n [h] := ⟨by simp, fun v hv => by simp at hv; omega⟩
 obtain ⟨res, hres⟩ : ∃ r, r = fnd (anR n A) n (fun v => wat n P (v : Int)) st h sc := ⟨_, rfl⟩
 rw [← hres]
 unfold fnd at hres
 have hop := fun ord ho => open_spec n P A hA hn hwA h sc st ord ho hsc0 (by omega)
 refine Spec.ofNI Try.func72 rfl Try.ntmps72 rfl ?_
 refine D_seq fun K1 hK1 => ?_
 refine D_region ?_
 refine DL_c (op_as _ (rfl : _ = AV.v (.slice _ _ _))) ?_
 refine DL_c (op_as _ (rfl : _ = AV.v (.slice _ _ _))) ?_
 refine DL_c (op_as _ (rfl : _ = AV.v (.int _ _))) ?_
 refine DL_nil (hK1 _ ?_)
 clear hK1; try clear K1
 refine D_seq fun K2 hK2 => ?_
 refine D_seq fun K3 hK3 => ?_
 refine D_region ?_
 refine DL_c (op_mv _ (rfl : _ = AV.v (.int _ _))) ?_
 refine DL_c (op_lss _ _ rfl rfl rfl) ?_
 refine DL_c (op_mv _ (rfl : _ = AV.v (.bool _))) ?_
 refine DL_caseC (fun hg18 => ?_) (fun hg18 => ?_)
 ·skip
  exact absurd  hg18 (by omega)
 ·skip
  refine DL_cy rfl rfl (op_mv _ (rfl : _ = AV.v (.int _ _))) ?_
  refine DL_cy rfl rfl (op_mv _ (rfl : _ = AV.fp _ _)) ?_
  refine DL_cy rfl rfl (op_callH inferInstance (by repeat' (first | exact argsLv_nil | refine argsLv_cons ?_ ?_ | exact Lv.fp)) (hl) rfl rfl) ?_
  refine DL_cy rfl rfl (op_geq _ _ rfl rfl rfl) ?_
  refine DL_c (op_pick _ _ _ rfl (rfl : _ = AV.v (.bool _))) ?_
  refine DL_nil (hK3 _ ?_)
  clear hK3; try clear K3
  refine D_splitC rfl (fun hc23 => ?_) (fun hc23 => ?_)
  ·skip
   exact absurd  hc23 (by omega)
  ·skip
   refine D_skip (hK2 _ ?_)
   clear hK2; try clear K2
   refine D_seq fun K4 hK4 => ?_
   refine D_region ?_
   refine DL_c (op_mv _ (rfl : _ = AV.fp _ _)) ?_
   refine DL_c (op_mv _ (rfl : _ = AV.v (.int _ _))) ?_
   refine DL_c (op_mv _ (rfl : _ = AV.fp _ _)) ?_
   refine DL_c (op_mv _ (rfl : _ = AV.v (.int _ _))) ?_
   refine DL_c (op_callH inferInstance (by repeat' (first | exact argsLv_nil | refine argsLv_cons ?_ ?_ | exact Lv.v | exact Lv.fp)) (hanc) rfl rfl) ?_
   refine DL_c (op_mv _ (rfl : _ = AV.fn _ _ _)) ?_
   refine DL_c (op_mkM (30, 0) rfl) ?_
   refine DL_c (op_build _ inferInstance rfl (by exact (rfl : _ = some [_, _, _, _, _, _]))) ?_
   refine DL_c (op_box (32, 0) _ rfl rfl) ?_
   refine DL_c (op_as _ (rfl : _ = AV.ptr _ _)) ?_
   refine DL_nil (hK4 _ ?_)
   clear hK4; try clear K4
   refine D_seq fun K5 hK5 => ?_
   refine D_seq fun K6 hK6 => ?_
   refine D_le (σ' := mkStI 78 [(1, _), (9, .ptr (0, 9) _)] [((3, 9), _), ((1, 9), _), ((0, 9), .box _ [_, _, _, _, .mp (1, 9), _])] [(3, 9)] [(3, 9)]) (by
    refine Le.mkJ [((0, 9), (32, 0)), ((1, 9), (30, 0))] [] rfl ?_ ?_ trivial ⟨rfl, trivial⟩ ?_
    ·exact ⟨(lvW [(3, 9)] rfl (rfl : _ = AV.v _) rfl), (lvPr rfl), trivial⟩
    ·exact ⟨(obW [(3, 9)] rfl rfl rfl rfl rfl), (by exact obM rfl rfl rfl rfl rfl), (obB rfl rfl rfl rfl (lv_cons (by exact lvW [(3, 9)] rfl (rfl : _ = AV.fp _ _) rfl) (lv_cons (by exact lvW [(3, 9)] rfl (rfl : _ = AV.v _) rfl) (lv_cons (by exact lvW [(3, 9)] rfl (rfl : _ = AV.sl _ _) rfl) (lv_cons (by exact lvW [(3, 9)] rfl (rfl : _ = AV.fn _ _ _) rfl) (lv_cons (by repeat' (exact Lv.mp)) (lv_cons (by exact lvW [(3, 9)] rfl (rfl : _ = AV.v _) rfl) lv_nil))))))), trivial⟩
    ·kernel_rfl) ?_
   refine D_le (Le.trans (Le.nilB (3, 9) 1 (4, 9) 3 1 rfl rfl rfl) (Le.nilB (0, 9) 5 (2, 9) 3 1 rfl rfl rfl)) ?_
   refine D_region ?_
   refine DL_c (op_mv _ (rfl : _ = AV.ptr _ _)) ?_
   refine DL_c (op_mv _ (rfl : _ = AV.v (.int _ _))) ?_
   refine DL_c (op_callP inferInstance [((2, 8), (62, 0)), ((4, 8), (64, 0))] ?_ (htry) (insK ⟨rfl, rfl, rfl, rfl, rfl, trivial⟩ rfl rfl) ⟨rfl, rfl, rfl, rfl, rfl, trivial⟩ (by kernel_rfl)) ?_
   ·repeat' (first | exact argsR_nil | refine argsR_cons ?_ ?_ | exact Lv.v | exact lvPr rfl)
   refine DL_c (op_neq _ _ rfl rfl rfl) ?_
   refine DL_nil (hK6 _ ?_)
   clear hK6; try clear K6
   refine D_splitC rfl (fun hc36 => ?_) (fun hc36 => ?_)
   ·skip
    exact absurd  hs hc36
   ·skip
    refine D_skip (hK5 _ ?_)
    clear hK5; try clear K5
    refine D_seq fun K7 hK7 => ?_
    refine D_seq fun K8 hK8 => ?_
    refine D_le (σ' := mkStI 78 [(9, _)] [((3, 9), .box _ [_, .ref (4, 9) _ _]), ((1, 9), _), ((0, 9), .box _ [_, _, _, _, _, .ref (2, 9) _ _]), ((2, 9), _), ((4, 9), _)] [(3, 9)] [(3, 9)]) (by
     refine Le.mkJ [((2, 9), (62, 0)), ((4, 9), (64, 0))] [] rfl ?_ ?_ trivial ⟨rfl, trivial⟩ ?_
     ·exact ⟨(lvW [(3, 9), (1, 9), (0, 9)] rfl (rfl : _ = AV.ptr _ _) rfl), trivial⟩
     ·exact ⟨(obB rfl rfl rfl rfl (lv_cons (by exact lvW [(3, 9), (1, 9), (0, 9)] rfl (rfl : _ = AV.sl _ _) rfl) (lv_cons (lvRr rfl (by rfl)) lv_nil))), (by exact obM rfl rfl rfl rfl rfl), (obB rfl rfl rfl rfl (lv_cons (by exact lvW [(3, 9), (1, 9), (0, 9)] rfl (rfl : _ = AV.fp _ _) rfl) (lv_cons (by exact lvW [(3, 9), (1, 9), (0, 9)] rfl (rfl : _ = AV.v _) rfl) (lv_cons (by exact lvW [(3, 9), (1, 9), (0, 9)] rfl (rfl : _ = AV.sl _ _) rfl) (lv_cons (by exact lvW [(3, 9), (1, 9), (0, 9)] rfl (rfl : _ = AV.fn _ _ _) rfl) (lv_cons (by exact lvW [(3, 9), (1, 9), (0, 9)] rfl (rfl : _ = AV.mp _) rfl) (lv_cons (lvRr rfl (by rfl)) lv_nil))))))), (by exact obR rfl rfl rfl rfl), (by exact obR rfl rfl rfl rfl), trivial⟩
     ·kernel_rfl) ?_
    refine D_region ?_
    refine DL_c (op_mv _ (rfl : _ = AV.ptr _ _)) ?_
    refine DL_c (op_callK inferInstance (66, 0) _ _ (by repeat' (first | exact argsR_nil | refine argsR_cons ?_ ?_ | exact lvPr rfl)) (hop [h] hok0) ⟨rfl, rfl, rfl, rfl, rfl, trivial⟩ rfl rfl rfl (by kernel_rfl) (by simp)) ?_
    refine DL_c (op_as _ (rfl : _ = AV.ref _ _ _)) ?_
    refine DL_nil (hK8 _ ?_)
    clear hK8; try clear K8
    refine D_block ?_
    refine D_loopL (α := Nat × List Nat) (fun q => ok1 n q.2 ∧ lop (anR n A) n st h sc n [h] = lop (anR n A) n st h sc q.1 q.2 ∧ n ≤ q.2.length + q.1 ∧ h ∈ q.2) 78 [(9, _)] [] (fun q => [(10, .ref (66, 0) 0 (opn (anR n A) n q.2 st h sc).length)]) (fun q => [((0, 9), .box 136 [.fp 0 (gra n P A), .v (.int .i64 (h : Int)), .sl sc.length (nsl sc), .fn (.func 73) [.ptr (3, 9) 0] [], .mp (1, 9), .ref (2, 9) 0 q.2.length]), ((1, 9), .mp (ment (mmap st q.2)) (mmap st q.2).length), ((2, 9), .row 3 1 (nsl q.2)), ((3, 9), .box 93 [.sl st.length (isl st), .ref (4, 9) 0 q.2.length]), ((4, 9), .row 3 1 (nsl q.2)), ((66, 0), .row 3 1 (nsl (opn (anR n A) n q.2 st h sc)))]) [(3, 9)] [(3, 9)] (fun q => q.1) (n, [h]) ?_ (by
     refine Le.mkJ [] [] rfl ?_ ?_ trivial ⟨rfl, trivial⟩ ?_
     ·exact ⟨(iP rfl), (lvRr rfl (by rfl)), trivial⟩
     ·exact ⟨(obB rfl rfl rfl rfl (lv_cons (by repeat' (exact Lv.fp)) (lv_cons (lvI (by rfl)) (lv_cons (lvSr (by rfl) (by rfl)) (lv_cons (by repeat' (first | exact lvPr rfl | refine Lv.fn rfl ?_ rfl ?_ | exact lv_nil | refine lv_cons ?_ ?_)) (lv_cons (by repeat' (exact Lv.mp)) (lv_cons (lvRr rfl (by rfl)) lv_nil))))))), (obM rfl rfl rfl (by rfl) (by rfl)), (obR rfl rfl rfl (by rfl)), (obB rfl rfl rfl rfl (lv_cons (lvSr (by rfl) (by rfl)) (lv_cons (lvRr rfl (by rfl)) lv_nil))), (obR rfl rfl rfl (by rfl)), (obR rfl rfl rfl (by rfl)), trivial⟩
     ·kernel_rfl) ?_
    ·exact ⟨hok0, rfl, by simp, by simp⟩
    intro q hq
    obtain ⟨k, ord⟩ := q
    obtain ⟨hok, hlop, hfu, hho⟩ := hq
    simp only at hok hlop hfu hho ⊢
    have hol := hok.len
    obtain ⟨O, hO⟩ : ∃ O, O = opn (anR n A) n ord st h sc := ⟨_, rfl⟩
    have hOl : O.length ≤ sc.length := by rw [hO]; exact List.length_filter_le _ _
    rw [← hO]
    refine D_seq fun K9 hK9 => ?_
    refine D_seq fun K10 hK10 => ?_
    refine D_region ?_
    refine DL_c (op_mv _ (rfl : _ = AV.ref _ _ _)) ?_
    refine DL_c (op_lenR _ inferInstance rfl rfl) ?_
    refine DL_c (op_gtr _ _ rfl rfl rfl) ?_
    refine DL_nil (hK10 _ ?_)
    clear hK10; try clear K10
    refine D_splitC rfl (fun hc41 => ?_) (fun hc41 => ?_)
    ·skip
     have hne : O ≠ [] := by intro e; rw [e] at hc41; simp at hc41
     obtain ⟨hm1, hm2⟩ := chsN_mem (R := anR n A) hne
     have hfew := opn_few (R := anR n A) (st := st) (h := h) hok hscn (hO ▸ hne)
     have hmem := opn_mem (R := anR n A) (n := n) (ord := ord) (st := st) (h := h) (sc := sc) (v := chsN (anR n A) O) (by rw [← hO]; exact hm1)
     obtain ⟨j, rfl⟩ : ∃ j, k = j + 1 := ⟨k - 1, by omega⟩
     obtain ⟨v, hv⟩ : ∃ v, v = chsN (anR n A) O := ⟨_, rfl⟩
     rw [← hv] at hm1 hm2 hmem
     have hch := choose_spec n P A hA hn hwA h sc O.length O rfl (by omega)
     rw [hm2] at hch
     have hvn := hscn v hmem.1
     have hok2 := hok.add hvn hmem.2
     have htr2 := try_spec n P A hn h sc st h1 ord hok v
     rw [adN_new hmem.2] at htr2
     have hstop := lop_stop (R := anR n A) (n := n) (st := st) (h := h) (sc := sc) (k := j) (ord := ord) (hO ▸ hne)
     have hnext := lop_next (R := anR n A) (n := n) (st := st) (h := h) (sc := sc) (k := j) (ord := ord) (hO ▸ hne)
     rw [← hO, ← hv] at hstop hnext
     refine D_skip (hK9 _ ?_)
     clear hK9; try clear K9
     refine D_seq fun K11 hK11 => ?_
     refine D_block ?_
     refine D_seq fun K12 hK12 => ?_
     refine D_region ?_
     refine DL_c (op_mv _ (rfl : _ = AV.ptr _ _)) ?_
     refine DL_c (op_mv _ (rfl : _ = AV.ptr _ _)) ?_
     refine DL_c (op_mv _ (rfl : _ = AV.ref _ _ _)) ?_
     refine DL_c (op_callBD inferInstance (argsD_cons (argD (lnS rfl) rfl) (argsD_cons (argD (.ref (ys := nsl O) rfl (by rw [List.drop_zero, Nat.mul_one, List.take_of_length_le (by simp)]) (by simp)) rfl) argsD_nil)) (hch) rfl) ?_
     refine DL_c (op_callP inferInstance [((2, 8), (72, 0)), ((4, 8), (74, 0))] ?_ (htr2) (insK ⟨rfl, rfl, rfl, rfl, rfl, trivial⟩ rfl rfl) ⟨rfl, rfl, rfl, rfl, rfl, trivial⟩ (by kernel_rfl)) ?_
     ·repeat' (first | exact argsR_nil | refine argsR_cons ?_ ?_ | exact Lv.v | exact lvPr rfl)
     refine DL_nil (hK12 _ ?_)
     clear hK12; try clear K12
     refine D_seq fun K13 hK13 => ?_
     refine D_le (σ' := mkStI 78 [(9, _)] [((0, 9), .box _ [_, _, _, _, _, .ref (2, 9) _ _]), ((1, 9), _), ((3, 9), .box _ [_, .ref (4, 9) _ _]), ((2, 9), _), ((4, 9), _)] [(3, 9)] [(3, 9)]) (by
      refine Le.mkJ [((2, 9), (72, 0)), ((4, 9), (74, 0))] [] rfl ?_ ?_ trivial ⟨rfl, trivial⟩ ?_
      ·exact ⟨(lvW [(0, 9), (1, 9), (3, 9)] rfl (rfl : _ = AV.ptr _ _) rfl), trivial⟩
      ·exact ⟨(obB rfl rfl rfl rfl (lv_cons (by exact lvW [(0, 9), (1, 9), (3, 9)] rfl (rfl : _ = AV.fp _ _) rfl) (lv_cons (by exact lvW [(0, 9), (1, 9), (3, 9)] rfl (rfl : _ = AV.v _) rfl) (lv_cons (by exact lvW [(0, 9), (1, 9), (3, 9)] rfl (rfl : _ = AV.sl _ _) rfl) (lv_cons (by exact lvW [(0, 9), (1, 9), (3, 9)] rfl (rfl : _ = AV.fn _ _ _) rfl) (lv_cons (by exact lvW [(0, 9), (1, 9), (3, 9)] rfl (rfl : _ = AV.mp _) rfl) (lv_cons (lvRr rfl (by rfl)) lv_nil))))))), (by exact obM rfl rfl rfl rfl rfl), (obB rfl rfl rfl rfl (lv_cons (by exact lvW [(0, 9), (1, 9), (3, 9)] rfl (rfl : _ = AV.sl _ _) rfl) (lv_cons (lvRr rfl (by rfl)) lv_nil))), (by exact obR rfl rfl rfl rfl), (by exact obR rfl rfl rfl rfl), trivial⟩
      ·kernel_rfl) ?_
     refine D_region ?_
     refine DL_c (op_mv _ (rfl : _ = AV.ptr _ _)) ?_
     refine DL_c (op_callK0 inferInstance _ _ (by repeat' (first | exact argsR_nil | refine argsR_cons ?_ ?_ | exact lvPr rfl)) (con_spec n P A hA hn hwA h sc st (ord ++ [v]) hok2) ⟨rfl, rfl, rfl, rfl, rfl, trivial⟩ rfl (by kernel_rfl) (by simp)) ?_
     refine DL_nil (hK13 _ ?_)
     clear hK13; try clear K13
     refine D_splitC rfl (fun hc50 => ?_) (fun hc50 => ?_)
     ·skip
      refine D_seq fun K14 hK14 => ?_
      refine D_region ?_
      refine DL_c (op_as _ (rfl : _ = AV.v (.slice _ _ _))) ?_
      refine DL_c (op_as _ (rfl : _ = AV.v (.slice _ _ _))) ?_
      refine DL_c (op_as _ (rfl : _ = AV.v (.int _ _))) ?_
      refine DL_nil (hK14 _ ?_)
      clear hK14; try clear K14
      refine D_ret ?_
      have e := hlop.trans (hstop hc50)
      rw [e, if_neg (by simp)] at hres
      subst hres
      exact ret3 (.inr rfl) rfl (.tmp (rfl : _ = AV.v _)) (.tmp (rfl : _ = AV.v _)) (.tmp (rfl : _ = AV.v _)) (Le.outI [((4, 8), (4, 9))] [] (.tup rfl (lv_cons .v (lv_cons .v (lv_cons .v lv_nil)))) rfl rfl rfl trivial ⟨⟨rfl, ⟨_, rfl, .box rfl (lv_cons .sl (lv_cons (lvRr rfl rfl) lv_nil))⟩, rfl⟩, ⟨rfl, ⟨_, rfl, .rowE rfl⟩, rfl⟩, trivial⟩ ⟨rfl, trivial⟩ rfl)
     ·skip
      have e := hlop.trans (hnext hc50)
      refine D_skip (hK11 _ ?_)
      clear hK11; try clear K11
      refine D_region ?_
      refine DL_c (op_mv _ (rfl : _ = AV.ptr _ _)) ?_
      refine DL_c (op_callK inferInstance (76, 0) _ _ (by repeat' (first | exact argsR_nil | refine argsR_cons ?_ ?_ | exact lvPr rfl)) (hop (ord ++ [v]) hok2) ⟨rfl, rfl, rfl, rfl, rfl, trivial⟩ rfl rfl rfl (by kernel_rfl) (by simp)) ?_
      refine DL_c (op_as _ (rfl : _ = AV.ref _ _ _)) ?_
      refine DL_nil ?_
      refine ⟨(j, ord ++ [v]), ?_, ?_, ?_⟩
      ·exact ⟨hok2, e, by simp; omega, by simp [hho]⟩
      ·skip
       refine Le.mkJ [((66, 0), (76, 0))] [] rfl ?_ ?_ trivial ⟨rfl, trivial⟩ ?_
       ·exact ⟨(lvPr (id := (0, 9)) rfl), (lvRr rfl (by rfl)), trivial⟩
       ·exact ⟨(obB rfl rfl rfl rfl (lv_cons (by repeat' (exact Lv.fp)) (lv_cons (lvI (by rfl)) (lv_cons (lvSr (by rfl) (by rfl)) (lv_cons (by repeat' (first | exact lvPr (id := (3, 9)) rfl | refine Lv.fn rfl ?_ rfl ?_ | exact lv_nil | refine lv_cons ?_ ?_)) (lv_cons (by repeat' (exact Lv.mp)) (lv_cons (lvRr rfl (by rfl)) lv_nil))))))), (obM rfl rfl rfl (by rfl) (by rfl)), (obR rfl rfl rfl (by rfl)), (obB rfl rfl rfl rfl (lv_cons (lvSr (by rfl) (by rfl)) (lv_cons (lvRr rfl (by rfl)) lv_nil))), (obR rfl rfl rfl (by rfl)), (obR rfl rfl rfl (by rfl)), trivial⟩
       ·kernel_rfl
      ·exact Nat.lt_succ_self j
    ·skip
     have hO0 : O = [] := List.eq_nil_of_length_eq_zero (by omega)
     have e := hlop.trans (lop_done k (hO ▸ hO0))
     rw [e, if_pos rfl] at hres
     simp only at hres
     clear hO hO0 hlop e htry hop
     have hcnd := cnd_spec n P A hA hn hwA h sc st ord hok (List.length_pos_of_mem (tst_mem.2 ⟨hh, hho, hs⟩))
     have hcl : ∀ v ∈ cnd (anR n A) n ord st, v < n := fun v hv => (cnd_lt hv).1
     have hcn : (cnd (anR n A) n ord st).length ≤ n := Nat.le_trans (List.length_filter_le _ _) (tst_len n ord st 1)
     have hvl := fun (C : List Nat) (hC : ∀ v ∈ C, v < n) i => bls_inv (R := anR n A) (par := fun v => wat n P (v : Int)) (n := n) (st := st) (fun v _ p hp => hpar v p hp) (T := fun _ => True) (fun _ _ _ _ => trivial) (l := C.take i) (q := (ord, [])) (fun v hv => ⟨hC v (List.mem_of_mem_take hv), trivial⟩) hok (fun _ _ => trivial)
     generalize cnd (anR n A) n ord st = C at *
     have hvl := hvl C hcl
     obtain ⟨bst, hbst⟩ : ∃ s, s = bstep (vsF (anR n A) n (fun v => wat n P (v : Int)) st) n := ⟨_, rfl⟩
     have hbl := fun i => bls_len (vs := vsF (anR n A) n (fun v => wat n P (v : Int)) st) (n := n) (C.take i) (ord, [])
     rw [← hbst] at hres hvl hbl
     obtain ⟨Q, hQ⟩ : ∃ Q : Nat → BS, Q = fun i => (vlist bst (C.take i) (ord, [])).1 := ⟨_, rfl⟩
     have hQi : ∀ i, (vlist bst (C.take i) (ord, [])).1 = Q i := fun i => by rw [hQ]
     have hQ0 : Q 0 = (ord, []) := by rw [hQ]; rfl
     simp only [hQi] at hvl hbl
     have hsuc : ∀ i, i < C.length → (vlist bst (C.take i) (ord, [])).2 = true → vlist bst (C.take (i + 1)) (ord, []) = bst (C.getD i 0) (Q i) := fun i hi ht => by rw [vlist_succ hi ht, hQi]
     have hret : ∀ i, i < C.length → (vlist bst (C.take i) (ord, [])).2 = true → (bst (C.getD i 0) (Q i)).2 = false → res = bst (C.getD i 0) (Q i) := fun i hi ht hf => by
      have e := hsuc i hi ht
      rw [hres, vlist_stop (i := i + 1) (by rw [e]; exact hf), e]
     have hnx : ∀ i, i < C.length → (vlist bst (C.take i) (ord, [])).2 = true → (bst (C.getD i 0) (Q i)).2 = true → (vlist bst (C.take (i + 1)) (ord, [])).2 = true ∧ Q (i + 1) = (bst (C.getD i 0) (Q i)).1 := fun i hi ht hf => by
      have e := hsuc i hi ht
      refine ⟨by rw [e]; exact hf, ?_⟩
      rw [← hQi, e]
     have hend : (vlist bst (C.take C.length) (ord, [])).2 = true → res = (Q C.length, true) := fun ht => by
      rw [hres, ← hQi]
      rw [List.take_length] at ht ⊢
      exact Prod.ext rfl ht
     refine D_exit ?_
     refine id (hK7 _ ?_)
     clear hK7; try clear K7
     refine D_seq fun K15 hK15 => ?_
     refine D_region ?_
     refine DL_c (op_asN (11, 0) _ 75 2 rfl rfl) ?_
     refine DL_nil (hK15 _ ?_)
     clear hK15; try clear K15
     refine D_seq fun K16 hK16 => ?_
     refine D_seq fun K17 hK17 => ?_
     refine D_region ?_
     refine DL_c (op_mv _ (rfl : _ = AV.ptr _ _)) ?_
     refine DL_c (op_callK inferInstance (80, 0) _ _ (by repeat' (first | exact argsR_nil | refine argsR_cons ?_ ?_ | exact lvPr rfl)) (hcnd) ⟨rfl, rfl, rfl, rfl, rfl, trivial⟩ rfl rfl rfl (by kernel_rfl) (by simp)) ?_
     refine DL_c (op_lenR _ inferInstance rfl rfl) ?_
     refine DL_c (op_mv _ (rfl : _ = AV.v (.int _ _))) ?_
     refine DL_nil (hK17 _ ?_)
     clear hK17; try clear K17
     refine D_block ?_
     refine D_loopL (α := Nat) (fun i => i ≤ C.length ∧ (vlist bst (C.take i) (ord, [])).2 = true) 78 [(9, _), (52, _), (53, _)] [((80, 0), _)] (fun i => [(54, .v (.int .i64 (i : Int))), (11, .ref (11, 0) 0 (Q i).2.length)]) (fun i => [((0, 9), .box 136 [.fp 0 (gra n P A), .v (.int .i64 (h : Int)), .sl sc.length (nsl sc), .fn (.func 73) [.ptr (3, 9) 0] [], .mp (1, 9), .ref (2, 9) 0 (Q i).1.length]), ((1, 9), .mp (ment (mmap st (Q i).1)) (mmap st (Q i).1).length), ((2, 9), .row 3 1 (nsl (Q i).1)), ((3, 9), .box 93 [.sl st.length (isl st), .ref (4, 9) 0 (Q i).1.length]), ((4, 9), .row 3 1 (nsl (Q i).1)), ((11, 0), .row 75 2 (blR (Q i).2))]) [(3, 9)] [(3, 9)] (fun i => C.length - i) 0 ?_ (by
      refine Le.mkJ [] [] rfl ?_ ?_ trivial ⟨rfl, trivial⟩ ?_
      ·exact ⟨(iP rfl), (iR rfl), (iV rfl), (lvI (by rfl)), (lvRr rfl (by (rw [hQ0] <;> rfl))), trivial⟩
      ·exact ⟨(obE rfl rfl rfl), (obB rfl rfl rfl rfl (lv_cons (by repeat' (exact Lv.fp)) (lv_cons (lvI (by rfl)) (lv_cons (lvSr (by rfl) (by rfl)) (lv_cons (by repeat' (first | exact lvPr rfl | refine Lv.fn rfl ?_ rfl ?_ | exact lv_nil | refine lv_cons ?_ ?_)) (lv_cons (by repeat' (exact Lv.mp)) (lv_cons (lvRr rfl (by (rw [hQ0] <;> rfl))) lv_nil))))))), (obM rfl rfl rfl (by (rw [hQ0] <;> rfl)) (by (rw [hQ0] <;> rfl))), (obR rfl rfl rfl (by (rw [hQ0] <;> rfl))), (obB rfl rfl rfl rfl (lv_cons (lvSr (by rfl) (by rfl)) (lv_cons (lvRr rfl (by (rw [hQ0] <;> rfl))) lv_nil))), (obR rfl rfl rfl (by (rw [hQ0] <;> rfl))), (obR rfl rfl rfl (by (rw [hQ0] <;> rfl))), trivial⟩
      ·kernel_rfl) ?_
     ·exact ⟨Nat.zero_le _, rfl⟩
     intro i hi
     obtain ⟨hi, ht⟩ := hi
     obtain ⟨hk1, _, _⟩ := hvl i
     have hk1l := hk1.len
     have hQl := hbl i ht
     rw [List.length_take, Nat.min_eq_left hi] at hQl
     have hQs := hret i
     have hQn := hnx i
     obtain ⟨o, hoq⟩ : ∃ o, o = (Q i).1 := ⟨_, rfl⟩
     obtain ⟨u, huq⟩ : ∃ u, u = (Q i).2 := ⟨_, rfl⟩
     have hou : Q i = (o, u) := Prod.ext hoq.symm huq.symm
     rw [hou] at hQs hQn
     rw [← hoq] at hk1 hk1l
     rw [← huq] at hQl
     simp only [List.length_nil, Nat.zero_add] at hQl
     rw [← hoq, ← huq]
     refine D_seq fun K18 hK18 => ?_
     refine D_region ?_
     refine DL_c (op_lss _ _ rfl rfl rfl) ?_
     refine DL_nil (hK18 _ ?_)
     clear hK18; try clear K18
     refine D_seq fun K19 hK19 => ?_
     refine D_splitC rfl (fun hc55 => ?_) (fun hc55 => ?_)
     ·skip
      obtain ⟨v, hv⟩ : ∃ v, v = C.getD i 0 := ⟨_, rfl⟩
      have hvn : v < n := hv ▸ hcl _ (getD_mem (by omega))
      have hQs := hQs (by omega) ht
      have hQn := hQn (by omega) ht
      rw [← hv] at hQs hQn
      have hsu := sus_spec n P A hP hA hn hwP hwA hpar h sc st h1 o hk1 v hvn
      have hbs : bst v (o, u) = if (vsF (anR n A) n (fun v => wat n P (v : Int)) st v (o, [])).2 = true then (((vsF (anR n A) n (fun v => wat n P (v : Int)) st v (o, [])).1.1, u ++ [(v, fil n (vsF (anR n A) n (fun v => wat n P (v : Int)) st v (o, [])).1.2)]), true) else (((vsF (anR n A) n (fun v => wat n P (v : Int)) st v (o, [])).1.1, u), false) := by rw [hbst]; rfl
      generalize vsF (anR n A) n (fun v => wat n P (v : Int)) st v (o, []) = r at hsu hbs
      obtain ⟨⟨ro, ru⟩, rb⟩ := r
      simp only at hsu hbs
      generalize fil n ru = fu at hsu hbs
      refine D_skip (hK19 _ ?_)
      clear hK19; try clear K19
      refine D_seq fun K20 hK20 => ?_
      refine D_block ?_
      refine D_seq fun K21 hK21 => ?_
      refine D_region ?_
      refine DL_c (op_ixR _ _ inferInstance rfl rfl rfl _ rfl (by omega) (by exact (Nat.zero_add _).trans (Nat.mul_one _))) ?_
      refine DL_c (op_ldR _ inferInstance rfl rfl (by exact (nsl_get _ _ (by omega)).trans (by rw [← hv])) rfl) ?_
      refine DL_c (op_as _ (rfl : _ = AV.v (.int _ _))) ?_
      refine DL_nil (hK21 _ ?_)
      clear hK21; try clear K21
      refine D_seq fun K22 hK22 => ?_
      refine D_region ?_
      refine DL_c (op_mv _ (rfl : _ = AV.ptr _ _)) ?_
      refine DL_c (op_mv _ (rfl : _ = AV.v (.int _ _))) ?_
      refine DL_c (op_callP inferInstance [((2, 8), (82, 0)), ((4, 8), (84, 0)), ((0, 8), (88, 0))] ?_ (hsu) (insK ⟨rfl, rfl, rfl, rfl, rfl, trivial⟩ rfl rfl) ⟨rfl, rfl, rfl, rfl, rfl, rfl, trivial⟩ (by kernel_rfl)) ?_
      ·repeat' (first | exact argsR_nil | refine argsR_cons ?_ ?_ | exact Lv.v | exact lvPr rfl)
      refine DL_c (op_mv _ (rfl : _ = AV.tup _)) ?_
      refine DL_c (op_ext _ rfl (rfl : _ = some (AV.ref _ _ _))) ?_
      refine DL_c (op_ext _ rfl (rfl : _ = some (AV.v (.bool _)))) ?_
      refine DL_c (op_as _ (rfl : _ = AV.ref _ _ _)) ?_
      refine DL_c (op_as _ (rfl : _ = AV.v (.bool _))) ?_
      refine DL_nil (hK22 _ ?_)
      clear hK22; try clear K22
      refine D_seq fun K23 hK23 => ?_
      refine D_seq fun K24 hK24 => ?_
      refine D_region ?_
      refine DL_c (op_mv _ (rfl : _ = AV.v (.bool _))) ?_
      refine DL_c (op_not _ rfl rfl) ?_
      refine DL_nil (hK24 _ ?_)
      clear hK24; try clear K24
      refine D_splitC rfl (fun hc65 => ?_) (fun hc65 => ?_)
      ·skip
       refine D_seq fun K25 hK25 => ?_
       refine D_region ?_
       refine DL_c (op_as _ (rfl : _ = AV.v (.slice _ _ _))) ?_
       refine DL_c (op_as _ (rfl : _ = AV.v (.slice _ _ _))) ?_
       refine DL_c (op_as _ (rfl : _ = AV.v (.int _ _))) ?_
       refine DL_nil (hK25 _ ?_)
       clear hK25; try clear K25
       refine D_ret ?_
       rw [hc65, if_neg (by simp)] at hbs
       rw [hbs] at hQs
       have hr := hQs rfl
       subst hr
       exact ret3 (.inr rfl) rfl (.tmp (rfl : _ = AV.v _)) (.tmp (rfl : _ = AV.v _)) (.tmp (rfl : _ = AV.v _)) (Le.outI [((4, 8), (84, 0))] [] (.tup rfl (lv_cons .v (lv_cons .v (lv_cons .v lv_nil)))) rfl rfl rfl trivial ⟨⟨rfl, ⟨_, rfl, .box rfl (lv_cons .sl (lv_cons (lvRr rfl rfl) lv_nil))⟩, rfl⟩, ⟨rfl, ⟨_, rfl, .rowE rfl⟩, rfl⟩, trivial⟩ ⟨rfl, trivial⟩ rfl)
      ·skip
       rw [hc65, if_pos rfl] at hbs
       rw [hbs] at hQn
       have hq := hQn rfl
       refine D_skip (hK23 _ ?_)
       clear hK23; try clear K23
       refine D_le (Le.frzS 14 (ys := nsl fu) (rfl : _ = AV.ref _ _ _) rfl rfl (by rw [List.drop_zero, Nat.mul_one, List.take_of_length_le (by simp)]) (by simp)) ?_
       refine D_region ?_
       refine DL_c (op_mv _ (rfl : _ = AV.ref _ _ _)) ?_
       refine DL_c (op_mv _ (rfl : _ = AV.v (.int _ _))) ?_
       refine DL_c (op_mv _ (rfl : _ = AV.sl _ _)) ?_
       refine DL_c (op_build _ inferInstance rfl (by exact (rfl : _ = some [_, _]))) ?_
       refine DL_c (op_bsF _ _ inferInstance rfl (by rfl) (by simp <;> rfl) (by decide) rfl) ?_
       refine DL_c (op_ap (71, 0) _ _ inferInstance rfl rfl (by rw [blR_len]) (.sl rfl) (by omega) rfl (blR_app _ _ _) (show u.length + 1 = (u ++ [(v, fu)]).length by simp)) ?_
       refine DL_c (op_as _ (rfl : _ = AV.ref _ _ _)) ?_
       refine DL_nil (hK20 _ ?_)
       clear hK20; try clear K20
       refine D_le (σ' := mkStI 78 [(9, _), (11, _), (52, _), (53, _), (54, _)] [((80, 0), _), ((0, 9), _), ((1, 9), _), ((3, 9), _), ((82, 0), _), ((84, 0), _), ((71, 0), _)] [(3, 9)] [(3, 9)]) (by
        refine Le.mkJ [] [] rfl ?_ ?_ trivial ⟨rfl, trivial⟩ ?_
        ·exact ⟨(iP rfl), (iR rfl), (iR rfl), (iV rfl), (iV rfl), trivial⟩
        ·exact ⟨(obE rfl rfl rfl), (obE rfl rfl rfl), (obE rfl rfl rfl), (obE rfl rfl rfl), (obE rfl rfl rfl), (obE rfl rfl rfl), (obE rfl rfl rfl), trivial⟩
        ·kernel_rfl) ?_
       refine D_region ?_
       refine DL_c (op_add _ _ rfl rfl (i64w (by omega))) ?_
       refine DL_c (op_mv _ (rfl : _ = AV.v (.int _ _))) ?_
       refine DL_nil ?_
       refine ⟨i + 1, ?_, ?_, ?_⟩
       ·exact ⟨by omega, hq.1⟩
       ·skip
        refine Le.mkJ [((11, 0), (71, 0)), ((2, 9), (82, 0)), ((4, 9), (84, 0))] [] rfl ?_ ?_ trivial ⟨rfl, trivial⟩ ?_
        ·exact ⟨(lvPr (id := (0, 9)) rfl), (lvRr (id := (80, 0)) rfl rfl), (by repeat' (exact Lv.v)), (lvI (by rfl)), (lvRr rfl (by (rw [hq.2]))), trivial⟩
        ·exact ⟨(by exact obR rfl rfl rfl rfl), (obB rfl rfl rfl rfl (lv_cons (by repeat' (exact Lv.fp)) (lv_cons (lvI (by rfl)) (lv_cons (lvSr (by rfl) (by rfl)) (lv_cons (by repeat' (first | exact lvPr (id := (3, 9)) rfl | refine Lv.fn rfl ?_ rfl ?_ | exact lv_nil | refine lv_cons ?_ ?_)) (lv_cons (by repeat' (exact Lv.mp)) (lv_cons (lvRr rfl (by (rw [hq.2]))) lv_nil))))))), (obM rfl rfl rfl (by (rw [hq.2])) (by (rw [hq.2]))), (obR rfl rfl rfl (by (rw [hq.2]))), (obB rfl rfl rfl rfl (lv_cons (lvSr (by rfl) (by rfl)) (lv_cons (lvRr rfl (by (rw [hq.2]))) lv_nil))), (obR rfl rfl rfl (by (rw [hq.2]))), (obR rfl rfl rfl (by (rw [hq.2]))), trivial⟩
        ·kernel_rfl
       ·omega
     ·skip
      obtain rfl : i = C.length := by omega
      have hr := hend ht
      rw [hou] at hr
      subst hr
      refine D_exit ?_
      refine id (hK16 _ ?_)
      clear hK16; try clear K16
      refine D_seq fun K26 hK26 => ?_
      refine D_anyL 8 [73, 74, 75, 76, 77, 6, 7, 8] [] (by kernel_rfl) (by kernel_rfl) rfl (nodupO_iff rfl) (rfl : _ = [_, _, _, _, _, _, _, _]) (rfl : _ = []) ?_
      refine any_c (_, []) (fun τ => op_mv _ (rfl : _ = AV.ref _ _ _)) ?_
      refine any_n (rfl : _ = [_]) ?_
      refine any_c (_, []) (fun τ => op_mv _ (rfl : _ = AV.ptr _ _)) ?_
      refine any_n (rfl : _ = [_, _]) ?_
      refine any_c (_, []) (fun τ => op_nilp _ rfl rfl) ?_
      refine any_n (rfl : _ = [_, _, _]) ?_
      refine any_c (_, []) (fun τ => op_fldP _ inferInstance rfl rfl rfl) ?_
      refine any_n (rfl : _ = [_, _, _, _]) ?_
      refine any_c (_, []) (fun τ => op_ldB _ inferInstance rfl rfl (rfl : _ = some (AV.ref _ _ _))) ?_
      refine any_n (rfl : _ = [_, _, _, _, _]) ?_
      refine any_c (_, []) (fun τ => op_as _ (rfl : _ = AV.ref _ _ _)) ?_
      refine any_n (rfl : _ = [_, _, _, _, _, _]) ?_
      refine any_c (_, []) (fun τ => op_as _ (rfl : _ = AV.ref _ _ _)) ?_
      refine any_n (rfl : _ = [_, _, _, _, _, _, _]) ?_
      refine any_c (_, []) (fun τ => op_as _ (rfl : _ = AV.v (.int _ _))) ?_
      refine any_n (rfl : _ = [_, _, _, _, _, _, _, _]) ?_
      refine any_end ⟨rfl, ?_⟩
      refine DL_nil (hK26 _ ?_)
      clear hK26; try clear K26
      refine D_ret ?_
      exact ret3 (.inr rfl) rfl (.tmp (rfl : _ = AV.ref _ _ _)) (.tmp (rfl : _ = AV.ref _ _ _)) (.tmp (rfl : _ = AV.v _)) (Le.outI [((4, 8), (4, 9)), ((0, 8), (11, 0)), ((2, 8), (2, 9))] [] (.tup rfl (lv_cons (lvRr rfl rfl) (lv_cons (lvRr rfl rfl) (lv_cons .v lv_nil)))) rfl rfl rfl trivial ⟨⟨rfl, ⟨_, rfl, .box rfl (lv_cons .sl (lv_cons (lvRr rfl rfl) lv_nil))⟩, rfl⟩, ⟨rfl, ⟨_, rfl, .rowE rfl⟩, rfl⟩, ⟨rfl, ⟨_, rfl, .rowE rfl⟩, rfl⟩, ⟨rfl, ⟨_, rfl, .rowE rfl⟩, rfl⟩, trivial⟩ ⟨rfl, trivial⟩ rfl)

end Go.Proofs.Ytkbkmngbenohkaa

namespace Go.Proofs.Ytkbkmngbenohkaa
open Go.RowKit

theorem sus_mem {n : Nat} (h64 : n ≤ 64) {E : Prs} {T : Nat → Bool} {w u : Nat} : u ∈ els (susW n E T w) ↔ u < n ∧ Clo (fst T E) u w := by
 rw [susW, els_cw h64, List.mem_filter, List.mem_range, cl_iff]
theorem whr2_bit {st : List Int} {x : Int} {c : Nat} (h : c < st.length) : (whr st x).testBit c = decide (st.getD c 0 = x) := by
 rw [whr_bit, decide_eq_true h, Bool.true_and]
theorem whr_lt_of {st : List Int} {x : Int} {c : Nat} (h : (whr st x).testBit c = true) : c < st.length ∧ st.getD c 0 = x := by
 rw [whr_bit, Bool.and_eq_true, decide_eq_true_eq, decide_eq_true_eq] at h; exact h
end Go.Proofs.Ytkbkmngbenohkaa

namespace Go.Proofs.Ytkbkmngbenohkaa
open Go.RowKit

/-- What the order of the versions and their parents have in common. -/
structure GR (n : Nat) (R : Rl) (par : Nat → List Nat) : Prop where
 lt : ∀ {a v}, R a v = true → a < n ∧ v < n
 refl : ∀ {v}, v < n → R v v = true
 trans : ∀ {a b c}, R a b = true → R b c = true → R a c = true
 le : ∀ {a b}, R a b = true → a ≤ b
 par : ∀ {v p}, p ∈ par v → R p v = true
/-- No good version is below a bad one. -/
def Inh (R : Rl) (st : List Int) : Prop := ∀ b g, R b g = true → nst st b = 1 → nst st g ≠ 0
/-- Bad, and none above is. -/
def mnl (R : Rl) (n : Nat) (st : List Int) (v : Nat) : Bool := decide (nst st v = 1) && !(List.range n).any fun u => decide (u ≠ v) && R u v && decide (nst st u = 1)
theorem mnl_iff {R : Rl} {n : Nat} {par : Nat → List Nat} (hG : GR n R par) {st : List Int} {v : Nat} : mnl R n st v = true ↔ nst st v = 1 ∧ ∀ u, R u v = true → u ≠ v → nst st u ≠ 1 := by
 unfold mnl
 rw [Bool.and_eq_true, decide_eq_true_eq, Bool.not_eq_true', List.any_eq_false]
 refine and_congr_right fun _ => ⟨fun h u hu hne hs => ?_, fun h u hu => ?_⟩
 ·have := h u (List.mem_range.2 (hG.lt hu).1)
  simp [hne, hu, hs] at this
 ·simp only [Bool.and_eq_true, decide_eq_true_eq, not_and]
  exact fun ⟨h1, h2⟩ h3 => h u h2 h1 h3
section
variable {n : Nat} {R : Rl} {par : Nat → List Nat} {st : List Int} {h : Nat}
/-- The versions above the head. -/
abbrev scp (R : Rl) (n h : Nat) : List Nat := (List.range n).filter fun u => R u h
theorem Inh.con (hI : Inh R st) (o : List Nat) : con R n o st = false := by
 unfold Go.Proofs.Ytkbkmngbenohkaa.con
 rw [List.any_eq_false]
 intro g hg
 rw [Bool.not_eq_true, List.any_eq_false]
 intro b hb hr
 exact hI b g hr (tst_mem.1 hb).2.2 (tst_mem.1 hg).2.2
/-- Above each bad version a minimal one. -/
theorem mnl_ex (hG : GR n R par) : ∀ (k : Nat) (v : Nat), v ≤ k → v < n → nst st v = 1 → ∃ u, R u v = true ∧ mnl R n st u = true
 | 0, v, hk, hv, hs => ⟨v, hG.refl hv, (mnl_iff hG).2 ⟨hs, fun u hu hne => by have := hG.le hu; omega⟩⟩
 | k + 1, v, hk, hv, hs => by
  by_cases hm : mnl R n st v = true
  ·exact ⟨v, hG.refl hv, hm⟩
  ·rw [mnl_iff hG] at hm
   have : ∃ u, R u v = true ∧ u ≠ v ∧ nst st u = 1 := by
    apply Classical.byContradiction
    intro hno
    exact hm ⟨hs, fun u hu hne h1 => hno ⟨u, hu, hne, h1⟩⟩
   obtain ⟨u, hu, hne, h1⟩ := this
   have := hG.le hu
   obtain ⟨w, hw, hm2⟩ := mnl_ex hG k u (by omega) (hG.lt hu).1 h1
   exact ⟨w, hG.trans hw hu, hm2⟩
/-- When no version is open the minimal ones are tested. -/
theorem done_tested (hG : GR n R par) (hI : Inh R st) {ord : List Nat} (he : opn R n ord st h (scp R n h) = []) {v : Nat} (hv : R v h = true) (hm : mnl R n st v = true) : v ∈ ord := by
 obtain ⟨m1, m2⟩ := (mnl_iff hG).1 hm
 have hvn := (hG.lt hv).1
 have h1 : stl R n ord st h v = true := by
  unfold opn at he
  rw [List.filter_eq_nil_iff] at he
  have := he v (List.mem_filter.2 ⟨List.mem_range.2 hvn, hv⟩)
  simpa using this
 unfold stl at h1
 simp only [Bool.or_eq_true, decide_eq_true_eq, List.any_eq_true, Bool.and_eq_true] at h1
 rcases h1 with h1 | ⟨g, hg, hr⟩ | ⟨b, hb, hne, hr⟩
 ·exact h1
 ·exact absurd (tst_mem.1 hg).2.2 (hI v g hr m1)
 ·obtain ⟨_, b2, b3⟩ := tst_mem.1 hb
  by_cases hbv : b = v
  ·exact hbv ▸ b2
  ·exact absurd b3 (m2 b hr hbv)
/-- The candidates are the minimal ones. -/
theorem done_cnd (hG : GR n R par) (hI : Inh R st) {ord : List Nat} (ho : ∀ u ∈ ord, R u h = true) (he : opn R n ord st h (scp R n h) = []) : cnd R n ord st = (scp R n h).filter (mnl R n st) := by
 unfold cnd scp tst
 rw [List.filter_filter, List.filter_filter]
 refine List.filter_congr fun v hv => ?_
 have hvn := List.mem_range.1 hv
 rw [Bool.eq_iff_iff]
 simp only [Bool.and_eq_true, Bool.not_eq_true', decide_eq_true_eq]
 constructor
 ·rintro ⟨h1, h2, h3⟩
  have hvh := ho v h2
  refine ⟨(mnl_iff hG).2 ⟨h3, fun u hu hne hs => ?_⟩, hvh⟩
  obtain ⟨w, hw, hm⟩ := mnl_ex (st := st) hG u u (Nat.le_refl _) (hG.lt hu).1 hs
  have hwv := hG.trans hw hu
  have hwo := done_tested hG hI he (hG.trans hwv hvh) hm
  rw [List.any_eq_false] at h1
  have h4 := hG.le hw
  have h5 := hG.le hu
  refine h1 w (List.mem_filter.2 ⟨List.mem_range.2 (hG.lt hw).1, ?_⟩) ?_
  ·simp [hwo, ((mnl_iff hG).1 hm).1]
  ·have : w ≠ v := by omega
   simp [this, hwv]
 ·rintro ⟨hm, hvh⟩
  obtain ⟨m1, m2⟩ := (mnl_iff hG).1 hm
  refine ⟨?_, done_tested hG hI he hvh hm, m1⟩
  rw [List.any_eq_false]
  intro b hb
  simp only [Bool.and_eq_true, decide_eq_true_eq, not_and]
  have hb3 : nst st b = 1 := by
   have := (List.mem_filter.1 hb).2
   simp only [Bool.and_eq_true, decide_eq_true_eq] at this
   exact this.2
  intro hne hr
  exact m2 b hr hne hb3
theorem bls_exact (hG : GR n R par) (hI : Inh R st) {S : Nat → List Nat} (hS : ∀ v o, v < n → ok1 n o → fil n (vsF R n par st v (o, [])).1.2 = S v) : ∀ (l : List Nat) (q : BS), (∀ v ∈ l, v < n) → ok1 n q.1 →
  (vlist (bstep (vsF R n par st) n) l q).2 = true ∧ (vlist (bstep (vsF R n par st) n) l q).1.2 = q.2 ++ l.map fun v => (v, S v)
 | [], q, _, _ => ⟨rfl, by simp [vlist]⟩
 | v :: l, q, hl, ho => by
  have hp : ∀ v, v < n → ∀ p ∈ par v, p < n := fun v _ p hp => (hG.lt (hG.par hp)).1
  have hvn := hl v (by simp)
  have ht : (vsF R n par st v (q.1, [])).2 = true := vis_true (fun o => hI.con o) _ _ _
  have hs : bstep (vsF R n par st) n v q = (((vsF R n par st v (q.1, [])).1.1, q.2 ++ [(v, S v)]), true) := by
   unfold bstep
   rw [if_pos ht, hS v q.1 hvn ho]
  have h3 := vis_ok (cf := fun o => Go.Proofs.Ytkbkmngbenohkaa.con R n o st) (un := unN st) (k := n + 1) hp hvn (q := (q.1, [])) ho ⟨List.nodup_nil, fun v hv => by simp at hv⟩
  obtain ⟨i1, i2⟩ := bls_exact hG hI hS l ((vsF R n par st v (q.1, [])).1.1, q.2 ++ [(v, S v)]) (fun u hu => hl u (by simp [hu])) h3.1
  simp only [vlist, hs, if_true]
  exact ⟨i1, by rw [i2]; simp⟩
/-- The blames are those of all versions. -/
theorem fnd_exact (hG : GR n R par) (hI : Inh R st) (hh : h < n) {S : Nat → List Nat} (hS : ∀ v o, v < n → ok1 n o → fil n (vsF R n par st v (o, [])).1.2 = S v) :
  (fnd R n par st h (scp R n h)).2 = true ∧ (fnd R n par st h (scp R n h)).1.2 = ((scp R n h).filter (mnl R n st)).map fun v => (v, S v) := by
 have h0 : ok1 n [h] := ⟨by simp, fun v hv => by simp at hv; omega⟩
 have hsc : ∀ v ∈ scp R n h, v < n := fun v hv => List.mem_range.1 (List.mem_filter.1 hv).1
 have ht : ∀ k ord, (lop R n st h (scp R n h) k ord).2 = true := by
  intro k
  induction k with
  | zero => exact fun _ => rfl
  | succ k ih =>
   intro ord
   by_cases he : opn R n ord st h (scp R n h) = []
   ·rw [lop_done _ he]
   ·rw [lop_next he (hI.con _)]; exact ih _
 obtain ⟨i1, _, i3, i4⟩ := lop_ok (R := R) (st := st) (h := h) hsc n [h] h0
 have he := i4 (by simp) (ht _ _)
 have ho : ∀ u ∈ (lop R n st h (scp R n h) n [h]).1, R u h = true := fun u hu => (i3 u hu).elim (fun hu => by simp at hu; subst hu; exact hG.refl hh) fun hu => (List.mem_filter.1 hu).2
 unfold fnd
 rw [if_pos (ht _ _), done_cnd hG hI ho he]
 have := bls_exact hG hI hS ((scp R n h).filter (mnl R n st)) ((lop R n st h (scp R n h) n [h]).1, []) (fun v hv => hsc v (List.mem_filter.1 hv).1) i1
 simpa using this
end
end Go.Proofs.Ytkbkmngbenohkaa
