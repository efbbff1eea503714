/- Part 13 of the texts that the walk leans on: the machine, the walks, the plain laws. -/
import Derived.Test.YtkbkmngbenohkaaBbZ12
set_option linter.unusedSimpArgs false
set_option linter.unusedVariables false
namespace Go.Proofs.Ytkbkmngbenohkaa
open Go.RowKit

/-! ### Bounds -/
theorem dgt_pow : ∀ (k m : Nat), k < dgt m ↔ 2 ^ k ≤ m
 | 0, m => by
  by_cases h : m = 0
  ·subst h; rw [dgt_zero]; simp
  ·rw [dgt_pos (by omega)]; simp; omega
 | k + 1, m => by
  by_cases h : m = 0
  ·subst h
   rw [dgt_zero]
   have : 0 < 2 ^ (k + 1) := Nat.two_pow_pos _
   omega
  ·rw [dgt_pos (by omega)]
   have := dgt_pow k (m / 2)
   rw [Nat.pow_succ]
   omega
def bnd (n : Nat) : Nat := if n = 0 then 0 else 1 + dgt (n - 1)
theorem dgt_le : ∀ (b k : Nat), k ≤ b → dgt k ≤ k
 | 0, k, h => by
  have : k = 0 := by omega
  rw [this, dgt_zero]; exact Nat.le_refl _
 | b + 1, k, h => by
  by_cases hk : k = 0
  ·rw [hk, dgt_zero]; exact Nat.le_refl _
  ·rw [dgt_pos (by omega)]
   have := dgt_le b (k / 2) (by omega)
   omega
theorem bound_spec (n : Nat) (hn : n ≤ 1099511627776) : Spec Try.prog 78 (inSt [.v (.int .i64 (n : Int))] []) (outSt (.v (.int .i64 (bnd n : Int))) []) := by
 have hdl := dgt_le (n - 1) (n - 1) (Nat.le_refl _)
 refine Spec.ofN Try.func78 rfl Try.ntmps78 rfl ?_
 refine D_seq fun K1 hK1 => ?_
 refine D_region ?_
 refine DL_c (op_as _ (rfl : _ = AV.v (.int _ _))) ?_
 refine DL_nil (hK1 _ ?_)
 clear hK1; try clear K1
 refine D_seq fun K2 hK2 => ?_
 refine D_seq fun K3 hK3 => ?_
 refine D_region ?_
 refine DL_c (op_mv _ (rfl : _ = AV.v (.int _ _))) ?_
 refine DL_c (op_leq _ _ rfl rfl rfl) ?_
 refine DL_nil (hK3 _ ?_)
 clear hK3; try clear K3
 refine D_splitC rfl (fun hc6 => ?_) (fun hc6 => ?_)
 ·skip
  refine D_seq fun K4 hK4 => ?_
  refine D_region ?_
  refine DL_c (op_as _ (rfl : _ = AV.v (.int _ _))) ?_
  refine DL_nil (hK4 _ ?_)
  clear hK4; try clear K4
  refine D_ret ?_
  refine ret1 (.inr rfl) rfl (.tmp (rfl : _ = AV.v (.int _ _))) (Le.out [] [] (lvI ?_) rfl rfl rfl trivial trivial)
  unfold bnd; rw [if_pos (by omega)]; rfl
 ·skip
  have hb : bnd n = 1 + dgt (n - 1) := if_neg (by omega)
  refine D_skip (hK2 _ ?_)
  clear hK2; try clear K2
  refine D_seq fun K5 hK5 => ?_
  refine D_region ?_
  refine DL_c (op_as _ (rfl : _ = AV.v (.int _ _))) ?_
  refine DL_nil (hK5 _ ?_)
  clear hK5; try clear K5
  refine D_seq fun K6 hK6 => ?_
  refine D_seq fun K7 hK7 => ?_
  refine D_region ?_
  refine DL_c (op_mv _ (rfl : _ = AV.v (.int _ _))) ?_
  refine DL_c (op_sub _ _ rfl rfl (i64w (by omega))) ?_
  refine DL_c (op_as _ (rfl : _ = AV.v (.int _ _))) ?_
  refine DL_nil (hK7 _ ?_)
  clear hK7; try clear K7
  refine D_block ?_
  refine D_loopL (α := Nat × Nat) (fun z => z.2 + dgt z.1 = 1 + dgt (n - 1) ∧ z.1 ≤ n) 16 [] [] (fun z => [(4, .v (.int .i64 (z.1 : Int))), (3, .v (.int .i64 (z.2 : Int)))]) (fun z => []) [] [] (fun z => z.1) (n - 1, 1) ?_ (by
   refine Le.mkJ [] [] rfl ?_ ?_ trivial trivial ?_
   ·exact ⟨(lvI (by omega)), (lvI (by rfl)), trivial⟩
   ·exact trivial
   ·kernel_rfl) ?_
  ·exact ⟨rfl, by simp only; omega⟩
  intro z hz
  obtain ⟨m, k⟩ := z
  obtain ⟨hz, hm⟩ := hz
  simp only at hz hm ⊢
  refine D_seq fun K8 hK8 => ?_
  refine D_seq fun K9 hK9 => ?_
  refine D_region ?_
  refine DL_c (op_mv _ (rfl : _ = AV.v (.int _ _))) ?_
  refine DL_c (op_gtr _ _ rfl rfl rfl) ?_
  refine DL_nil (hK9 _ ?_)
  clear hK9; try clear K9
  refine D_splitC rfl (fun hc10 => ?_) (fun hc10 => ?_)
  ·skip
   have hd := dgt_pos (show 0 < m by omega)
   refine D_skip (hK8 _ ?_)
   clear hK8; try clear K8
   refine D_seq fun K10 hK10 => ?_
   refine D_block ?_
   refine D_region ?_
   refine DL_c (op_mv _ (rfl : _ = AV.v (.int _ _))) ?_
   refine DL_c (op_add _ _ rfl rfl (i64w (by omega))) ?_
   refine DL_c (op_as _ (rfl : _ = AV.v (.int _ _))) ?_
   refine DL_nil (hK10 _ ?_)
   clear hK10; try clear K10
   refine D_region ?_
   refine DL_c (op_mv _ (rfl : _ = AV.v (.int _ _))) ?_
   refine DL_c (op_quo _ _ rfl rfl (by omega) ((i64w (by rw [Int.tdiv_eq_ediv_of_nonneg (by omega)]; omega)).trans (Int.tdiv_eq_ediv_of_nonneg (by omega)))) ?_
   refine DL_c (op_as _ (rfl : _ = AV.v (.int _ _))) ?_
   refine DL_nil ?_
   refine ⟨(m / 2, k + 1), ?_, ?_, ?_⟩
   ·exact ⟨by simp only; omega, by simp only; omega⟩
   ·skip
    refine Le.mkJ [] [] rfl ?_ ?_ trivial trivial ?_
    ·exact ⟨(lvI (by rfl)), (lvI (by rfl)), trivial⟩
    ·exact trivial
    ·kernel_rfl
   ·simp only; omega
  ·skip
   obtain rfl : m = 0 := by omega
   rw [dgt_zero] at hz
   refine D_exit ?_
   refine id (hK6 _ ?_)
   clear hK6; try clear K6
   refine D_seq fun K11 hK11 => ?_
   refine D_region ?_
   refine DL_c (op_mv _ (rfl : _ = AV.v (.int _ _))) ?_
   refine DL_c (op_as _ (rfl : _ = AV.v (.int _ _))) ?_
   refine DL_nil (hK11 _ ?_)
   clear hK11; try clear K11
   refine D_ret ?_
   refine ret1 (.inr rfl) rfl (.tmp (rfl : _ = AV.v (.int _ _))) (Le.out [] [] (lvI ?_) rfl rfl rfl trivial trivial)
   omega
theorem rbound_spec (n : Nat) (hn : n ≤ 1099511627776) : Spec Try.prog 79 (inSt [.v (.int .i64 (n : Int))] []) (outSt (.v (.int .i64 (bnd n : Int))) []) := by
 have hdl := dgt_le (n - 1) (n - 1) (Nat.le_refl _)
 refine Spec.ofN Try.func79 rfl Try.ntmps79 rfl ?_
 refine D_seq fun K1 hK1 => ?_
 refine D_region ?_
 refine DL_c (op_as _ (rfl : _ = AV.v (.int _ _))) ?_
 refine DL_nil (hK1 _ ?_)
 clear hK1; try clear K1
 refine D_seq fun K2 hK2 => ?_
 refine D_seq fun K3 hK3 => ?_
 refine D_region ?_
 refine DL_c (op_mv _ (rfl : _ = AV.v (.int _ _))) ?_
 refine DL_c (op_eql _ _ rfl rfl rfl) ?_
 refine DL_nil (hK3 _ ?_)
 clear hK3; try clear K3
 refine D_splitC rfl (fun hc6 => ?_) (fun hc6 => ?_)
 ·skip
  refine D_seq fun K4 hK4 => ?_
  refine D_region ?_
  refine DL_c (op_as _ (rfl : _ = AV.v (.int _ _))) ?_
  refine DL_nil (hK4 _ ?_)
  clear hK4; try clear K4
  refine D_ret ?_
  refine ret1 (.inr rfl) rfl (.tmp (rfl : _ = AV.v (.int _ _))) (Le.out [] [] (lvI ?_) rfl rfl rfl trivial trivial)
  unfold bnd; rw [if_pos (by omega)]; rfl
 ·skip
  have hb : bnd n = 1 + dgt (n - 1) := if_neg (by omega)
  refine D_skip (hK2 _ ?_)
  clear hK2; try clear K2
  refine D_seq fun K5 hK5 => ?_
  refine D_region ?_
  refine DL_c (op_as _ (rfl : _ = AV.v (.int _ _))) ?_
  refine DL_nil (hK5 _ ?_)
  clear hK5; try clear K5
  refine D_seq fun K6 hK6 => ?_
  refine D_seq fun K7 hK7 => ?_
  refine D_region ?_
  refine DL_c (op_as _ (rfl : _ = AV.v (.int _ _))) ?_
  refine DL_nil (hK7 _ ?_)
  clear hK7; try clear K7
  refine D_block ?_
  refine D_loopL (α := Nat) (fun k => k ≤ dgt (n - 1) ∧ 2 ^ k ≤ 2 * n) 17 [(0, _)] [] (fun k => [(4, .v (.int .i64 ((2 ^ k : Nat) : Int))), (3, .v (.int .i64 (k : Int)))]) (fun k => []) [] [] (fun k => n - k) 0 ?_ (by
   refine Le.mkJ [] [] rfl ?_ ?_ trivial trivial ?_
   ·exact ⟨(iV rfl), (lvI (by rfl)), (lvI (by rfl)), trivial⟩
   ·exact trivial
   ·kernel_rfl) ?_
  ·exact ⟨Nat.zero_le _, by simp; omega⟩
  intro k hk
  obtain ⟨hk, h2⟩ := hk
  have hpw := dgt_pow k (n - 1)
  have hp1 : 2 ^ (k + 1) = 2 * 2 ^ k := by rw [Nat.pow_succ]; omega
  obtain ⟨p, hp⟩ : ∃ p, p = 2 ^ k := ⟨_, rfl⟩
  rw [← hp] at h2 hpw hp1 ⊢
  refine D_seq fun K8 hK8 => ?_
  refine D_seq fun K9 hK9 => ?_
  refine D_region ?_
  refine DL_c (op_mv _ (rfl : _ = AV.v (.int _ _))) ?_
  refine DL_c (op_mv _ (rfl : _ = AV.v (.int _ _))) ?_
  refine DL_c (op_sub _ _ rfl rfl (i64w (by omega))) ?_
  refine DL_c (op_leq _ _ rfl rfl rfl) ?_
  refine DL_nil (hK9 _ ?_)
  clear hK9; try clear K9
  refine D_splitC rfl (fun hc10 => ?_) (fun hc10 => ?_)
  ·skip
   refine D_skip (hK8 _ ?_)
   clear hK8; try clear K8
   refine D_seq fun K10 hK10 => ?_
   refine D_block ?_
   refine D_region ?_
   refine DL_c (op_mv _ (rfl : _ = AV.v (.int _ _))) ?_
   refine DL_c (op_add _ _ rfl rfl (i64w (by omega))) ?_
   refine DL_c (op_as _ (rfl : _ = AV.v (.int _ _))) ?_
   refine DL_nil (hK10 _ ?_)
   clear hK10; try clear K10
   refine D_region ?_
   refine DL_c (op_mv _ (rfl : _ = AV.v (.int _ _))) ?_
   refine DL_c (op_mul _ _ rfl rfl (i64w (by omega))) ?_
   refine DL_c (op_as _ (rfl : _ = AV.v (.int _ _))) ?_
   refine DL_nil ?_
   refine ⟨k + 1, ?_, ?_, ?_⟩
   ·exact ⟨by omega, by rw [hp1]; omega⟩
   ·skip
    refine Le.mkJ [] [] rfl ?_ ?_ trivial trivial ?_
    ·exact ⟨(iV rfl), (lvI (by omega)), (lvI (by rfl)), trivial⟩
    ·exact trivial
    ·kernel_rfl
   ·omega
  ·skip
   refine D_exit ?_
   refine id (hK6 _ ?_)
   clear hK6; try clear K6
   refine D_seq fun K11 hK11 => ?_
   refine D_region ?_
   refine DL_c (op_mv _ (rfl : _ = AV.v (.int _ _))) ?_
   refine DL_c (op_add _ _ rfl rfl (i64w (by omega))) ?_
   refine DL_c (op_as _ (rfl : _ = AV.v (.int _ _))) ?_
   refine DL_nil (hK11 _ ?_)
   clear hK11; try clear K11
   refine D_ret ?_
   refine ret1 (.inr rfl) rfl (.tmp (rfl : _ = AV.v (.int _ _))) (Le.out [] [] (lvI ?_) rfl rfl rfl trivial trivial)
   omega

/-! ### Chains -/
def chM (n : Nat) : List (List Int) := (List.range n).map fun (v : Nat) => if v = 0 then ([] : List Int) else [(v : Int) - 1]
@[simp] theorem chM_len (n : Nat) : (chM n).length = n := by simp [chM]
theorem chM_get {n v : Nat} (h : v < n) : (chM n).getD v [] = if v = 0 then [] else [(v : Int) - 1] := by simp [chM, List.getD_eq_getElem?_getD, h]
theorem chM_succ (n : Nat) : chM (n + 1) = chM n ++ [if n = 0 then [] else [(n : Int) - 1]] := by simp [chM, List.range_succ]
theorem chain_spec (n : Nat) (hn : n ≤ 1000) : Spec Try.prog 77 (inSt [.v (.int .i64 (n : Int))] []) (outSt (.sl n (nrows (chM n))) []) := by
 refine Spec.ofN Try.func77 rfl Try.ntmps77 rfl ?_
 refine D_seq fun K1 hK1 => ?_
 refine D_region ?_
 refine DL_c (op_as _ (rfl : _ = AV.v (.slice _ _ _))) ?_
 refine DL_nil (hK1 _ ?_)
 clear hK1; try clear K1
 refine D_seq fun K2 hK2 => ?_
 refine D_region ?_
 refine DL_c (op_asN (3, 0) _ 29 1 rfl rfl) ?_
 refine DL_nil (hK2 _ ?_)
 clear hK2; try clear K2
 refine D_seq fun K3 hK3 => ?_
 refine D_seq fun K4 hK4 => ?_
 refine D_region ?_
 refine DL_c (op_as _ (rfl : _ = AV.v (.int _ _))) ?_
 refine DL_nil (hK4 _ ?_)
 clear hK4; try clear K4
 refine D_block ?_
 refine D_loopL (α := Nat) (fun v => v ≤ n) 23 [(0, _)] [] (fun v => [(4, .v (.int .i64 (v : Int))), (3, .ref (3, 0) 0 v)]) (fun v => [((3, 0), .row 29 1 (nrows (chM v)))]) [] [] (fun v => n - v) 0 ?_ (by
  refine Le.mkJ [] [] rfl ?_ ?_ trivial trivial ?_
  ·exact ⟨(iV rfl), (lvI (by rfl)), (lvRr rfl (by rfl)), trivial⟩
  ·exact ⟨(obR rfl rfl rfl (by rfl)), trivial⟩
  ·kernel_rfl) ?_
 ·omega
 intro v hv
 refine D_seq fun K5 hK5 => ?_
 refine D_seq fun K6 hK6 => ?_
 refine D_region ?_
 refine DL_c (op_mv _ (rfl : _ = AV.v (.int _ _))) ?_
 refine DL_c (op_mv _ (rfl : _ = AV.v (.int _ _))) ?_
 refine DL_c (op_lss _ _ rfl rfl rfl) ?_
 refine DL_nil (hK6 _ ?_)
 clear hK6; try clear K6
 refine D_splitC rfl (fun hc8 => ?_) (fun hc8 => ?_)
 ·skip
  refine D_skip (hK5 _ ?_)
  clear hK5; try clear K5
  refine D_seq fun K7 hK7 => ?_
  refine D_block ?_
  refine D_seq fun K8 hK8 => ?_
  refine D_region ?_
  refine DL_c (op_asN (5, 0) _ 3 1 rfl rfl) ?_
  refine DL_nil (hK8 _ ?_)
  clear hK8; try clear K8
  refine D_seq fun K9 hK9 => ?_
  refine D_seq fun K10 hK10 => ?_
  refine D_region ?_
  refine DL_c (op_mv _ (rfl : _ = AV.v (.int _ _))) ?_
  refine DL_c (op_gtr _ _ rfl rfl rfl) ?_
  refine DL_nil (hK10 _ ?_)
  clear hK10; try clear K10
  refine D_splitC rfl (fun hc12 => ?_) (fun hc12 => ?_)
  ·skip
   have hnx : nrows (chM (v + 1)) = nrows (chM v) ++ [.sl 1 (isl [(v : Int) - 1])] := by rw [chM_succ, if_neg (by omega)]; simp [nrows]
   refine D_region ?_
   refine DL_c (op_mv _ (rfl : _ = AV.ref _ _ _)) ?_
   refine DL_c (op_mv _ (rfl : _ = AV.v (.int _ _))) ?_
   refine DL_c (op_sub _ _ rfl rfl (i64w (by omega))) ?_
   refine DL_c (op_bsF _ _ inferInstance rfl (by rfl) (by simp <;> rfl) (by decide) rfl) ?_
   refine DL_c (op_ap (17, 0) _ _ inferInstance rfl rfl (by rfl) (by (refine .sl ?_; (simp [isl]; done))) (by omega) rfl (rfl) (rfl)) ?_
   refine DL_c (op_as _ (rfl : _ = AV.ref _ _ _)) ?_
   refine DL_nil (hK9 _ ?_)
   clear hK9; try clear K9
   refine D_le (Le.frzS (ys := isl [(v : Int) - 1]) 5 rfl rfl rfl (by rfl) (by simp)) ?_
   refine D_region ?_
   refine DL_c (op_mv _ (rfl : _ = AV.ref _ _ _)) ?_
   refine DL_c (op_mv _ (rfl : _ = AV.sl _ _)) ?_
   refine DL_c (op_bsF _ _ inferInstance rfl (by rfl) (by simp <;> rfl) (by decide) rfl) ?_
   refine DL_c (op_ap (21, 0) _ _ inferInstance rfl rfl (by (simp; done)) (by (refine .sl ?_; (simp [isl]; done))) (by omega) rfl (rfl) (rfl)) ?_
   refine DL_c (op_as _ (rfl : _ = AV.ref _ _ _)) ?_
   refine DL_nil (hK7 _ ?_)
   clear hK7; try clear K7
   refine D_le (σ' := mkStI 23 [(0, _), (3, _), (4, _)] [((21, 0), _)] [] []) (by
    refine Le.mkJ [] [] rfl ?_ ?_ trivial trivial ?_
    ·exact ⟨(iV rfl), (iR rfl), (iV rfl), trivial⟩
    ·exact ⟨(obE rfl rfl rfl), trivial⟩
    ·kernel_rfl) ?_
   refine D_region ?_
   refine DL_c (op_mv _ (rfl : _ = AV.v (.int _ _))) ?_
   refine DL_c (op_add _ _ rfl rfl (i64w (by omega))) ?_
   refine DL_c (op_as _ (rfl : _ = AV.v (.int _ _))) ?_
   refine DL_nil ?_
   refine ⟨v + 1, ?_, ?_, ?_⟩
   ·omega
   ·skip
    refine Le.mkJ [((3, 0), (21, 0))] [] rfl ?_ ?_ trivial trivial ?_
    ·exact ⟨(by repeat' (exact Lv.v)), (lvI (by rfl)), (lvRr rfl (by rfl)), trivial⟩
    ·exact ⟨(obR rfl rfl rfl (by rw [hnx])), trivial⟩
    ·kernel_rfl
   ·omega
  ·skip
   have hnx : nrows (chM (v + 1)) = nrows (chM v) ++ [.sl 0 (isl [])] := by rw [chM_succ, if_pos (by omega)]; simp [nrows]
   refine D_skip (hK9 _ ?_)
   clear hK9; try clear K9
   refine D_le (Le.frzS (ys := isl []) 5 rfl rfl rfl (by rfl) (by simp)) ?_
   refine D_region ?_
   refine DL_c (op_mv _ (rfl : _ = AV.ref _ _ _)) ?_
   refine DL_c (op_mv _ (rfl : _ = AV.sl _ _)) ?_
   refine DL_c (op_bsF _ _ inferInstance rfl (by rfl) (by simp <;> rfl) (by decide) rfl) ?_
   refine DL_c (op_ap (21, 0) _ _ inferInstance rfl rfl (by (simp; done)) (by (refine .sl ?_; (simp [isl]; done))) (by omega) rfl (rfl) (rfl)) ?_
   refine DL_c (op_as _ (rfl : _ = AV.ref _ _ _)) ?_
   refine DL_nil (hK7 _ ?_)
   clear hK7; try clear K7
   refine D_region ?_
   refine DL_c (op_mv _ (rfl : _ = AV.v (.int _ _))) ?_
   refine DL_c (op_add _ _ rfl rfl (i64w (by omega))) ?_
   refine DL_c (op_as _ (rfl : _ = AV.v (.int _ _))) ?_
   refine DL_nil ?_
   refine ⟨v + 1, ?_, ?_, ?_⟩
   ·omega
   ·skip
    refine Le.mkJ [((3, 0), (21, 0))] [] rfl ?_ ?_ trivial trivial ?_
    ·exact ⟨(by repeat' (exact Lv.v)), (lvI (by rfl)), (lvRr rfl (by rfl)), trivial⟩
    ·exact ⟨(obR rfl rfl rfl (by rw [hnx])), trivial⟩
    ·kernel_rfl
   ·omega
 ·skip
  refine D_exit ?_
  refine id (hK3 _ ?_)
  clear hK3; try clear K3
  refine D_seq fun K11 hK11 => ?_
  refine D_region ?_
  refine DL_c (op_mv _ (rfl : _ = AV.ref _ _ _)) ?_
  refine DL_c (op_as _ (rfl : _ = AV.ref _ _ _)) ?_
  refine DL_nil (hK11 _ ?_)
  clear hK11; try clear K11
  refine D_ret ?_
  obtain rfl : v = n := by omega
  exact ret1 (.inr rfl) rfl (.tmp (rfl : _ = AV.ref _ _ _)) (Le.out [] [(3, 0)] (frz0 rfl rfl (by simp) rfl) rfl rfl rfl ⟨rfl, trivial⟩ trivial)
theorem chM_edg {n a b : Nat} : ((a : Int), (b : Int)) ∈ edg (chM n) n 0 ↔ b < n ∧ a + 1 = b := by
 rw [edg_mem]
 constructor
 ·rintro ⟨v, hv, h1, h2⟩
  rw [chM_get hv] at h2
  simp only at h1 h2
  split at h2
  ·simp at h2
  ·simp at h2; omega
 ·rintro ⟨h1, h2⟩
  refine ⟨b, h1, rfl, ?_⟩
  rw [chM_get h1, if_neg (by omega)]
  simp; omega
theorem chM_valid (n : Nat) : Valid (chM n) := by
 intro v hv
 rw [chM_len] at hv
 rw [chM_get hv, chM_len]
 split
 ·exact ⟨List.nodup_nil, fun p hp => by simp at hp⟩
 ·exact ⟨by simp, fun p hp => by simp at hp; omega⟩
theorem chM_clo {n a b : Nat} : Clo (edg (chM n) n 0) a b ↔ a < b ∧ b < n := by
 constructor
 ·intro h
  induction h with
  | one h => have := chM_edg.1 h; omega
  | more h _ ih => have := chM_edg.1 h; omega
 ·rintro ⟨h1, h2⟩
  obtain ⟨d, rfl⟩ : ∃ d, b = a + d + 1 := ⟨b - a - 1, by omega⟩
  induction d generalizing a with
  | zero => exact .one (chM_edg.2 ⟨h2, rfl⟩)
  | succ d ih => exact .more (chM_edg.2 ⟨by omega, rfl⟩ : ((a : Int), ((a + 1 : Nat) : Int)) ∈ _) (by
    have := ih (a := a + 1) (by omega) (by omega)
    rwa [show a + 1 + d + 1 = a + (d + 1) + 1 by omega] at this)
theorem chM_lt {n a b : Nat} (h : Clo (edg (chM n) n 0) a b) : a < b := (chM_clo.1 h).1
theorem chM_acyc (n : Nat) : ¬ ∃ a, a < (chM n).length ∧ Clo (edg (chM n) (chM n).length 0) a a := fun ⟨a, _, h⟩ => by
 rw [chM_len] at h; exact Nat.lt_irrefl _ (chM_lt h)
theorem chM_R {n : Nat} (hn : n ≤ 64) (a v : Nat) : anR n (ancW n (edg (chM n) n 0)) a v = (decide (a ≤ v) && decide (v < n)) := by
 rw [Bool.eq_iff_iff, anR_iff (chM_len n), Bool.and_eq_true, decide_eq_true_eq, decide_eq_true_eq]
 constructor
 ·intro h
  have hv := upE_out (chM_len n) h
  have h2 := (upE_mem (by rw [chM_len]; exact hn) (by rw [chM_len]; exact hv)).1 h
  rw [chM_len, chM_clo] at h2
  omega
 ·rintro ⟨h1, h2⟩
  refine (upE_mem (by rw [chM_len]; exact hn) (by rw [chM_len]; exact h2)).2 ?_
  rw [chM_len, chM_clo]
  omega
theorem chM_up {n h : Nat} (hn : n ≤ 64) (hh : h < n) : upE (chM n) h = List.range (h + 1) := by
 rw [← scp_up (chM_len n) hn hh]
 unfold scp
 obtain ⟨d, rfl⟩ : ∃ d, n = (h + 1) + d := ⟨n - (h + 1), by omega⟩
 rw [List.range_add, List.filter_append, List.filter_eq_self.2, List.filter_eq_nil_iff.2, List.append_nil]
 ·intro u hu
  rw [List.mem_map] at hu
  obtain ⟨x, _, rfl⟩ := hu
  rw [chM_R hn]; simp; omega
 ·intro u hu
  have := List.mem_range.1 hu
  rw [chM_R hn]; simp; omega
theorem newC_spec (n : Nat) (hn : n ≤ 64) : Spec Try.prog 58 (inSt [.sl n (nrows (chM n))] []) (outSt (.tup [.fp 0 (gra n (parW (chM n)) (ancW n (edg (chM n) n 0))), .v (.int .i64 0)]) []) := by
 have hN := vnew_spec n (chM n) (chM_len n) (by omega) (fun v => by
  by_cases hv : v < n
  ·rw [chM_get hv]; split <;> simp
  ·rw [List.getD_eq_getElem?_getD, List.getElem?_eq_none (by rw [chM_len]; omega)]; simp) fun hV _ a _ => by
  have := nxt_edg (Ps := chM n) a n fun v hv => (hV v (by rw [chM_len]; exact hv)).1
  rw [this, List.length_map]
  exact Nat.le_trans (filter_few (a := a) (m := 1) _ fun v hp => by
   rw [decide_eq_true_eq] at hp
   by_cases hv : v < n
   ·rw [chM_get hv] at hp
    split at hp
    ·simp at hp
    ·simp at hp; omega
   ·rw [List.getD_eq_getElem?_getD, List.getElem?_eq_none (by rw [chM_len]; omega)] at hp; simp at hp) (by decide)
 rw [newV_ok (by rw [chM_len]; omega) (chM_valid n) (chM_acyc n), chM_len] at hN
 exact hN
theorem same33_spec (n m : Nat) (L M : List (Nat × List Nat)) (hL : L.length = n) (hM : M.length = m) (h1 : n ≤ 1000) (h2 : m ≤ 1000) (h3 : ∀ i, (L.getD i (0, [])).2.length ≤ 1000) (h4 : ∀ i, (M.getD i (0, [])).2.length ≤ 1000) :
  Spec Try.prog 75 (inSt [.sl n (blR L), .sl m (blR M)] []) (outSt (.v (.bool (decide (L = M)))) []) := by
 subst hL; subst hM
 refine Spec.ofN Try.func75 rfl Try.ntmps75 rfl ?_
 refine D_seq fun K1 hK1 => ?_
 refine D_region ?_
 refine DL_c (op_as _ (rfl : _ = AV.v (.bool _))) ?_
 refine DL_nil (hK1 _ ?_)
 clear hK1; try clear K1
 refine D_seq fun K2 hK2 => ?_
 refine D_seq fun K3 hK3 => ?_
 refine D_region ?_
 refine DL_c (op_mv _ (rfl : _ = AV.sl _ _)) ?_
 refine DL_c (op_lenS _ inferInstance rfl) ?_
 refine DL_c (op_mv _ (rfl : _ = AV.sl _ _)) ?_
 refine DL_c (op_lenS _ inferInstance rfl) ?_
 refine DL_c (op_neq _ _ rfl rfl rfl) ?_
 refine DL_nil (hK3 _ ?_)
 clear hK3; try clear K3
 refine D_splitC rfl (fun hc10 => ?_) (fun hc10 => ?_)
 ·skip
  refine D_seq fun K4 hK4 => ?_
  refine D_region ?_
  refine DL_c (op_as _ (rfl : _ = AV.v (.bool _))) ?_
  refine DL_nil (hK4 _ ?_)
  clear hK4; try clear K4
  refine D_ret ?_
  refine ret1 (.inr rfl) rfl (.tmp (rfl : _ = AV.v (.bool _))) (Le.out [] [] (lvB ?_) rfl rfl rfl trivial trivial)
  exact decide_eq_false fun h => by subst h; omega
 ·skip
  refine D_skip (hK2 _ ?_)
  clear hK2; try clear K2
  refine D_seq fun K5 hK5 => ?_
  refine D_seq fun K6 hK6 => ?_
  refine D_region ?_
  refine DL_c (op_as _ (rfl : _ = AV.v (.int _ _))) ?_
  refine DL_nil (hK6 _ ?_)
  clear hK6; try clear K6
  refine D_block ?_
  refine D_loopL (α := Nat) (fun k => k ≤ L.length ∧ L.length = M.length ∧ L.take k = M.take k) 42 [(0, _), (1, _)] [] (fun k => [(5, .v (.int .i64 (k : Int)))]) (fun k => []) [] [] (fun k => L.length - k) 0 ?_ (by
   refine Le.mkJ [] [] rfl ?_ ?_ trivial trivial ?_
   ·exact ⟨(iS rfl), (iS rfl), (lvI (by rfl)), trivial⟩
   ·exact trivial
   ·kernel_rfl) ?_
  ·exact ⟨by omega, by omega, rfl⟩
  intro k hk
  obtain ⟨hk, hl, ht⟩ := hk
  refine D_seq fun K7 hK7 => ?_
  refine D_seq fun K8 hK8 => ?_
  refine D_region ?_
  refine DL_c (op_mv _ (rfl : _ = AV.v (.int _ _))) ?_
  refine DL_c (op_mv _ (rfl : _ = AV.sl _ _)) ?_
  refine DL_c (op_lenS _ inferInstance rfl) ?_
  refine DL_c (op_lss _ _ rfl rfl rfl) ?_
  refine DL_nil (hK8 _ ?_)
  clear hK8; try clear K8
  refine D_splitC rfl (fun hc14 => ?_) (fun hc14 => ?_)
  ·skip
   have hkx : k < L.length := by omega
   have hky : k < M.length := by omega
   have h3k := h3 k
   have h4k := h4 k
   refine D_skip (hK7 _ ?_)
   clear hK7; try clear K7
   refine D_seq fun K9 hK9 => ?_
   refine D_block ?_
   refine D_seq fun K10 hK10 => ?_
   refine D_le (σ' := mkStI 42 [(0, _), (1, _), (5, _)] [] [] []) (by
    refine Le.mkJ [] [] rfl ?_ ?_ trivial trivial ?_
    ·exact ⟨(iS rfl), (iS rfl), (iV rfl), trivial⟩
    ·exact trivial
    ·kernel_rfl) ?_
   refine D_anyL 25 [17, 18, 19, 20, 21, 22, 23, 24, 25, 26, 27, 28, 29, 30, 31, 32, 33, 34, 35, 36, 37, 38, 39, 40, 41] [] (by kernel_rfl) (by kernel_rfl) rfl (nodupO_iff rfl) (rfl : _ = [_, _, _, _, _, _, _, _, _, _, _, _, _, _, _, _, _, _, _, _, _, _, _, _, _]) (rfl : _ = []) ?_
   refine any_c (_, []) (fun τ => op_mv _ (rfl : _ = AV.sl _ _)) ?_
   refine any_n (rfl : _ = [_]) ?_
   refine any_c (_, []) (fun τ => op_mv _ (rfl : _ = AV.v (.int _ _))) ?_
   refine any_n (rfl : _ = [_, _]) ?_
   refine any_c (_, []) (fun τ => op_ixS _ _ inferInstance rfl rfl _ rfl (by omega) (by (simp only [isl_len, bsl_len, psl_len, mrows_len, nsl_len, ws_len, List.length_map, ul_len, psl_len, isl_len, nrows_len, mmap_len, smap_len, dcl_len, blR_len]; omega)) (by rfl)) ?_
   refine any_n (rfl : _ = [_, _, _]) ?_
   refine any_c (_, []) (fun τ => op_fldF _ inferInstance rfl rfl) ?_
   refine any_n (rfl : _ = [_, _, _, _]) ?_
   refine any_c (_, []) (fun τ => op_ldF _ inferInstance rfl (by exact blR_get0 _ _ (by omega)) rfl) ?_
   refine any_n (rfl : _ = [_, _, _, _, _]) ?_
   refine any_c (_, []) (fun τ => op_mv _ (rfl : _ = AV.sl _ _)) ?_
   refine any_n (rfl : _ = [_, _, _, _, _, _]) ?_
   refine any_c (_, []) (fun τ => op_mv _ (rfl : _ = AV.v (.int _ _))) ?_
   refine any_n (rfl : _ = [_, _, _, _, _, _, _]) ?_
   refine any_c (_, []) (fun τ => op_ixS _ _ inferInstance rfl rfl _ rfl (by omega) (by (simp only [isl_len, bsl_len, psl_len, mrows_len, nsl_len, ws_len, List.length_map, ul_len, psl_len, isl_len, nrows_len, mmap_len, smap_len, dcl_len, blR_len]; omega)) (by rfl)) ?_
   refine any_n (rfl : _ = [_, _, _, _, _, _, _, _]) ?_
   refine any_c (_, []) (fun τ => op_fldF _ inferInstance rfl rfl) ?_
   refine any_n (rfl : _ = [_, _, _, _, _, _, _, _, _]) ?_
   refine any_c (_, []) (fun τ => op_ldF _ inferInstance rfl (by exact blR_get0 _ _ (by omega)) rfl) ?_
   refine any_n (rfl : _ = [_, _, _, _, _, _, _, _, _, _]) ?_
   refine any_c (_, []) (fun τ => op_neq _ _ rfl rfl rfl) ?_
   refine any_n (rfl : _ = [_, _, _, _, _, _, _, _, _, _, _]) ?_
   refine any_c (_, []) (fun τ => op_mv _ (rfl : _ = AV.v (.bool _))) ?_
   refine any_caseC (fun hg28 => ?_) (fun hg28 => ?_)
   ·skip
    refine any_n (rfl : _ = [_, _, _, _, _, _, _, _, _, _, _, _]) ?_
    refine any_cn rfl (fun τ => rfl) (by decide) ?_
    refine any_n (rfl : _ = [_, _, _, _, _, _, _, _, _, _, _, _, _]) ?_
    refine any_cn rfl (fun τ => rfl) (by decide) ?_
    refine any_n (rfl : _ = [_, _, _, _, _, _, _, _, _, _, _, _, _, _]) ?_
    refine any_cn rfl (fun τ => rfl) (by decide) ?_
    refine any_n (rfl : _ = [_, _, _, _, _, _, _, _, _, _, _, _, _, _, _]) ?_
    refine any_cn rfl (fun τ => rfl) (by decide) ?_
    refine any_n (rfl : _ = [_, _, _, _, _, _, _, _, _, _, _, _, _, _, _, _]) ?_
    refine any_cn rfl (fun τ => rfl) (by decide) ?_
    refine any_n (rfl : _ = [_, _, _, _, _, _, _, _, _, _, _, _, _, _, _, _, _]) ?_
    refine any_cn rfl (fun τ => rfl) (by decide) ?_
    refine any_n (rfl : _ = [_, _, _, _, _, _, _, _, _, _, _, _, _, _, _, _, _, _]) ?_
    refine any_cn rfl (fun τ => rfl) (by decide) ?_
    refine any_n (rfl : _ = [_, _, _, _, _, _, _, _, _, _, _, _, _, _, _, _, _, _, _]) ?_
    refine any_cn rfl (fun τ => rfl) (by decide) ?_
    refine any_n (rfl : _ = [_, _, _, _, _, _, _, _, _, _, _, _, _, _, _, _, _, _, _, _]) ?_
    refine any_cn rfl (fun τ => rfl) (by decide) ?_
    refine any_n (rfl : _ = [_, _, _, _, _, _, _, _, _, _, _, _, _, _, _, _, _, _, _, _, _]) ?_
    refine any_cn rfl (fun τ => rfl) (by decide) ?_
    refine any_n (rfl : _ = [_, _, _, _, _, _, _, _, _, _, _, _, _, _, _, _, _, _, _, _, _, _]) ?_
    refine any_cn rfl (fun τ => rfl) (by decide) ?_
    refine any_n (rfl : _ = [_, _, _, _, _, _, _, _, _, _, _, _, _, _, _, _, _, _, _, _, _, _, _]) ?_
    refine any_cn rfl (fun τ => rfl) (by decide) ?_
    refine any_n (rfl : _ = [_, _, _, _, _, _, _, _, _, _, _, _, _, _, _, _, _, _, _, _, _, _, _, _]) ?_
    refine any_c (_, []) (fun τ => op_pick _ _ _ rfl (rfl : _ = AV.v (.bool _))) ?_
    refine any_n (rfl : _ = [_, _, _, _, _, _, _, _, _, _, _, _, _, _, _, _, _, _, _, _, _, _, _, _, _]) ?_
    refine any_end ⟨rfl, ?_⟩
    refine DL_nil (hK10 _ ?_)
    clear hK10; try clear K10
    refine D_cT rfl rfl ?_
    refine D_seq fun K11 hK11 => ?_
    refine D_le (σ' := mkStI 42 [] [] [] []) (by
     refine Le.mkJ [] [] rfl ?_ ?_ trivial trivial ?_
     ·exact trivial
     ·exact trivial
     ·kernel_rfl) ?_
    refine D_region ?_
    refine DL_c (op_as _ (rfl : _ = AV.v (.bool _))) ?_
    refine DL_nil (hK11 _ ?_)
    clear hK11; try clear K11
    refine D_ret ?_
    refine ret1 (.inr rfl) rfl (.tmp (rfl : _ = AV.v (.bool _))) (Le.out [] [] (lvB ?_) rfl rfl rfl trivial trivial)
    exact decide_eq_false fun h => by subst h; exact hg28 rfl
   ·skip
    refine any_n (rfl : _ = [_, _, _, _, _, _, _, _, _, _, _, _]) ?_
    refine any_cy (_, []) rfl (fun τ => rfl) (fun τ => op_mv _ (rfl : _ = AV.sl _ _)) ?_
    refine any_n (rfl : _ = [_, _, _, _, _, _, _, _, _, _, _, _, _]) ?_
    refine any_cy (_, []) rfl (fun τ => rfl) (fun τ => op_mv _ (rfl : _ = AV.v (.int _ _))) ?_
    refine any_n (rfl : _ = [_, _, _, _, _, _, _, _, _, _, _, _, _, _]) ?_
    refine any_cy (_, []) rfl (fun τ => rfl) (fun τ => op_ixS _ _ inferInstance rfl rfl _ rfl (by omega) (by (simp only [isl_len, bsl_len, psl_len, mrows_len, nsl_len, ws_len, List.length_map, ul_len, psl_len, isl_len, nrows_len, mmap_len, smap_len, dcl_len, blR_len]; omega)) (by rfl)) ?_
    refine any_n (rfl : _ = [_, _, _, _, _, _, _, _, _, _, _, _, _, _, _]) ?_
    refine any_cy (_, []) rfl (fun τ => rfl) (fun τ => op_fldF _ inferInstance rfl rfl) ?_
    refine any_n (rfl : _ = [_, _, _, _, _, _, _, _, _, _, _, _, _, _, _, _]) ?_
    refine any_cy (_, []) rfl (fun τ => rfl) (fun τ => op_ldF _ inferInstance rfl (by exact blR_get1 _ _ (by omega)) rfl) ?_
    refine any_n (rfl : _ = [_, _, _, _, _, _, _, _, _, _, _, _, _, _, _, _, _]) ?_
    refine any_cy (_, []) rfl (fun τ => rfl) (fun τ => op_mv _ (rfl : _ = AV.sl _ _)) ?_
    refine any_n (rfl : _ = [_, _, _, _, _, _, _, _, _, _, _, _, _, _, _, _, _, _]) ?_
    refine any_cy (_, []) rfl (fun τ => rfl) (fun τ => op_mv _ (rfl : _ = AV.v (.int _ _))) ?_
    refine any_n (rfl : _ = [_, _, _, _, _, _, _, _, _, _, _, _, _, _, _, _, _, _, _]) ?_
    refine any_cy (_, []) rfl (fun τ => rfl) (fun τ => op_ixS _ _ inferInstance rfl rfl _ rfl (by omega) (by (simp only [isl_len, bsl_len, psl_len, mrows_len, nsl_len, ws_len, List.length_map, ul_len, psl_len, isl_len, nrows_len, mmap_len, smap_len, dcl_len, blR_len]; omega)) (by rfl)) ?_
    refine any_n (rfl : _ = [_, _, _, _, _, _, _, _, _, _, _, _, _, _, _, _, _, _, _, _]) ?_
    refine any_cy (_, []) rfl (fun τ => rfl) (fun τ => op_fldF _ inferInstance rfl rfl) ?_
    refine any_n (rfl : _ = [_, _, _, _, _, _, _, _, _, _, _, _, _, _, _, _, _, _, _, _, _]) ?_
    refine any_cy (_, []) rfl (fun τ => rfl) (fun τ => op_ldF _ inferInstance rfl (by exact blR_get1 _ _ (by omega)) rfl) ?_
    refine any_n (rfl : _ = [_, _, _, _, _, _, _, _, _, _, _, _, _, _, _, _, _, _, _, _, _, _]) ?_
    refine any_cy (_, []) rfl (fun τ => rfl) (fun τ => (op_callH inferInstance (by repeat' (first | exact argsLv_nil | refine argsLv_cons ?_ ?_ | exact Lv.sl)) (same_spec _ _ ((L.getD k (0, [])).2.map fun (x : Nat) => (x : Int)) ((M.getD k (0, [])).2.map fun (x : Nat) => (x : Int)) (by simp) (by simp) (by omega) (by omega)) rfl rfl)) ?_
    refine any_n (rfl : _ = [_, _, _, _, _, _, _, _, _, _, _, _, _, _, _, _, _, _, _, _, _, _, _]) ?_
    refine any_cy (_, []) rfl (fun τ => rfl) (fun τ => op_not _ rfl rfl) ?_
    refine any_n (rfl : _ = [_, _, _, _, _, _, _, _, _, _, _, _, _, _, _, _, _, _, _, _, _, _, _, _]) ?_
    refine any_c (_, []) (fun τ => op_pick _ _ _ rfl (rfl : _ = AV.v (.bool _))) ?_
    refine any_n (rfl : _ = [_, _, _, _, _, _, _, _, _, _, _, _, _, _, _, _, _, _, _, _, _, _, _, _, _]) ?_
    refine any_end ⟨rfl, ?_⟩
    refine DL_nil (hK10 _ ?_)
    clear hK10; try clear K10
    refine D_splitC rfl (fun hc41 => ?_) (fun hc41 => ?_)
    ·skip
     refine D_seq fun K12 hK12 => ?_
     refine D_le (σ' := mkStI 42 [] [] [] []) (by
      refine Le.mkJ [] [] rfl ?_ ?_ trivial trivial ?_
      ·exact trivial
      ·exact trivial
      ·kernel_rfl) ?_
     refine D_region ?_
     refine DL_c (op_as _ (rfl : _ = AV.v (.bool _))) ?_
     refine DL_nil (hK12 _ ?_)
     clear hK12; try clear K12
     refine D_ret ?_
     refine ret1 (.inr rfl) rfl (.tmp (rfl : _ = AV.v (.bool _))) (Le.out [] [] (lvB ?_) rfl rfl rfl trivial trivial)
     exact decide_eq_false fun h => by subst h; exact hc41 rfl
    ·skip
     have hek : L.getD k (0, []) = M.getD k (0, []) := Prod.ext (by omega) (cast_inj.1 hc41)
     refine D_skip (hK9 _ ?_)
     clear hK9; try clear K9
     refine D_le (σ' := mkStI 42 [(0, _), (1, _), (5, _)] [] [] []) (by
      refine Le.mkJ [] [] rfl ?_ ?_ trivial trivial ?_
      ·exact ⟨(iS rfl), (iS rfl), (iV rfl), trivial⟩
      ·exact trivial
      ·kernel_rfl) ?_
     refine D_region ?_
     refine DL_c (op_mv _ (rfl : _ = AV.v (.int _ _))) ?_
     refine DL_c (op_add _ _ rfl rfl (i64w (by omega))) ?_
     refine DL_c (op_as _ (rfl : _ = AV.v (.int _ _))) ?_
     refine DL_nil ?_
     refine ⟨k + 1, ?_, ?_, ?_⟩
     ·exact ⟨by omega, hl, by rw [take1 (0, []) hkx, take1 (0, []) hky, ht, hek]⟩
     ·skip
      refine Le.mkJ [] [] rfl ?_ ?_ trivial trivial ?_
      ·exact ⟨(iS rfl), (iS rfl), (lvI (by rfl)), trivial⟩
      ·exact trivial
      ·kernel_rfl
     ·omega
  ·skip
   refine D_exit ?_
   refine id (hK5 _ ?_)
   clear hK5; try clear K5
   refine D_seq fun K13 hK13 => ?_
   refine D_region ?_
   refine DL_c (op_as _ (rfl : _ = AV.v (.bool _))) ?_
   refine DL_nil (hK13 _ ?_)
   clear hK13; try clear K13
   refine D_ret ?_
   refine ret1 (.inr rfl) rfl (.tmp (rfl : _ = AV.v (.bool _))) (Le.out [] [] (lvB ?_) rfl rfl rfl trivial trivial)
   rw [List.take_of_length_le (by omega), List.take_of_length_le (by omega)] at ht; exact decide_eq_true ht
/-! ### The documented example -/
theorem fnd4 : fnd (fun a v => decide (a ≤ v) && decide (v < 4)) 4 (fun v => wat 4 (parW (chM 4)) (v : Int)) [0, 0, 1, 1] 3 [0, 1, 2, 3] = (([3, 1, 2], [(2, [])]), true) := by decide
end Go.Proofs.Ytkbkmngbenohkaa

namespace Go.Proofs.Ytkbkmngbenohkaa
open Go.RowKit

/-- What is known of a graph, as the search takes it. -/
theorem findG_spec {n : Nat} {Ps : List (List Int)} (hPs : Ps.length = n) (h64 : n ≤ 64) (hV : Valid Ps) (hlt : ∀ {a b : Nat}, Clo (edg Ps n 0) a b → a < b) (st : List Int) (h1 : st.length ≤ 4611686018427387904) (h : Nat) (hh : h < n) (hs : nst st h = 1) :
  Spec Try.prog 72 (inStI [.fp 0 (gra n (parW Ps) (ancW n (edg Ps n 0))), .v (.int .i64 (h : Int)), .fn (.func 73) [.ptr (3, 9) 0] []] [((3, 9), .box 93 [.sl st.length (isl st), .v (.slice none 0 0)])])
   (fOut st (fnd (anR n (ancW n (edg Ps n 0))) n (fun v => wat n (parW Ps) (v : Int)) st h (upE Ps h))) := by
 have hG := gr_of hPs h64 hV hlt
 subst hPs
 have hu : wat Ps.length (ancW Ps.length (edg Ps Ps.length 0)) (h : Int) = upE Ps h := rfl
 have := find_spec Ps.length (parW Ps) (ancW Ps.length (edg Ps Ps.length 0)) (parW_len Ps) (ancW_len _ _) h64 (parW_lt hV h64) (ancW_lt h64 _) (fun v p hp => (hG.lt (hG.par hp)).1) st h1 h hh hs
  (by rw [hu]; exact (upE_mem h64 hh).2 ⟨hh, .inl rfl⟩) (fun v hv => by rw [hu] at hv; exact ((upE_mem h64 hh).1 hv).1)
 rw [hu] at this
 exact this
theorem bl_one (x : Nat × List Nat) (h : x.2.length ≤ 1000) (i : Nat) : ([x].getD i (0, [])).2.length ≤ 1000 := by
 cases i with
 | zero => exact h
 | succ i => simp
theorem lives33_spec : Spec Try.prog 76 (inSt [] []) (outSt (.v (.bool true)) []) := by
 have hC := chain_spec 4 (by decide)
 have hN := newC_spec 4 (by decide)
 have hF := findG_spec (chM_len 4) (by decide) (chM_valid 4) chM_lt [0, 0, 1, 1] (by decide) 3 (by decide) (by decide)
 have hRf : anR 4 (ancW 4 (edg (chM 4) 4 0)) = fun a v => decide (a ≤ v) && decide (v < 4) := funext fun a => funext fun v => chM_R (by decide) a v
 rw [hRf, chM_up (by decide) (by decide), show List.range (3 + 1) = [0, 1, 2, 3] from rfl, fnd4] at hF
 have hF : Spec Try.prog 72 (inStI [.fp 0 (gra 4 (parW (chM 4)) (ancW 4 (edg (chM 4) 4 0))), .v (.int .i64 3), .fn (.func 73) [.ptr (3, 9) 0] []] [((3, 9), .box 93 [.sl 4 (isl [0, 0, 1, 1]), .v (.slice none 0 0)])])
   (outStI (.tup [.ref (0, 8) 0 1, .ref (2, 8) 0 3, .v (.int .i64 0)]) [((3, 9), .box 93 [.sl 4 (isl [0, 0, 1, 1]), .ref (4, 8) 0 3]), ((4, 8), .row 3 1 (nsl [3, 1, 2])), ((0, 8), .row 75 2 (blR [(2, [])])), ((2, 8), .row 3 1 (nsl [3, 1, 2]))] [(3, 9)] [(3, 9)]) := hF
 have hS := same33_spec 1 1 [(2, [])] [(2, [])] rfl rfl (by decide) (by decide) (bl_one _ (by decide)) (bl_one _ (by decide))
 have hO := same_spec 3 3 [3, 1, 2] [3, 1, 2] rfl rfl (by decide) (by decide)
 generalize ancW 4 (edg (chM 4) 4 0) = A at *
 generalize parW (chM 4) = P at *
 refine Spec.ofN Try.func76 rfl Try.ntmps76 rfl ?_
 refine D_seq fun K1 hK1 => ?_
 refine D_region ?_
 refine DL_c (op_as _ (rfl : _ = AV.v (.bool _))) ?_
 refine DL_nil (hK1 _ ?_)
 clear hK1; try clear K1
 refine D_seq fun K2 hK2 => ?_
 refine D_region ?_
 refine DL_c (op_callH inferInstance (by repeat' (first | exact argsLv_nil | refine argsLv_cons ?_ ?_ | exact Lv.v)) (hC) rfl rfl) ?_
 refine DL_c (op_callH inferInstance (by repeat' (first | exact argsLv_nil | refine argsLv_cons ?_ ?_ | exact Lv.sl)) (hN) rfl rfl) ?_
 refine DL_c (op_mv _ (rfl : _ = AV.tup _)) ?_
 refine DL_c (op_ext _ rfl (rfl : _ = some (AV.fp _ _))) ?_
 refine DL_c (op_ext _ rfl (rfl : _ = some (AV.v (.int _ _)))) ?_
 refine DL_c (op_as _ (rfl : _ = AV.fp _ _)) ?_
 refine DL_c (op_as _ (rfl : _ = AV.v (.int _ _))) ?_
 refine DL_nil (hK2 _ ?_)
 clear hK2; try clear K2
 refine D_seq fun K3 hK3 => ?_
 refine D_seq fun K4 hK4 => ?_
 refine D_region ?_
 refine DL_c (op_mv _ (rfl : _ = AV.fp _ _)) ?_
 refine DL_c (op_eqN _ _ (by kernel_rfl) (.inr ⟨_, _, rfl⟩) rfl) ?_
 refine DL_c (op_mv _ (rfl : _ = AV.v (.bool _))) ?_
 refine DL_cy rfl rfl (op_mv _ (rfl : _ = AV.v (.int _ _))) ?_
 refine DL_cy rfl rfl (op_neq (r := false) _ _ rfl rfl rfl) ?_
 refine DL_c (op_pick (b := false) _ _ _ rfl rfl) ?_
 refine DL_nil (hK4 _ ?_)
 clear hK4; try clear K4
 refine D_cF rfl rfl ?_
 refine D_skip (hK3 _ ?_)
 clear hK3; try clear K3
 refine D_seq fun K5 hK5 => ?_
 refine D_region ?_
 refine DL_c (op_bsF _ _ inferInstance rfl (by rfl) (by simp <;> rfl) (by decide) rfl) ?_
 refine DL_c (op_build _ inferInstance rfl (by exact (rfl : _ = some [_, _]))) ?_
 refine DL_c (op_box (20, 0) _ rfl rfl) ?_
 refine DL_c (op_as _ (rfl : _ = AV.ptr _ _)) ?_
 refine DL_nil (hK5 _ ?_)
 clear hK5; try clear K5
 refine D_seq fun K6 hK6 => ?_
 refine D_le (σ' := mkStI 47 [(1, _), (3, _)] [((20, 0), _)] [] []) (by
  refine Le.mkJ [] [] rfl ?_ ?_ trivial trivial ?_
  ·exact ⟨(iF rfl), (iP rfl), trivial⟩
  ·exact ⟨(obE rfl rfl rfl), trivial⟩
  ·kernel_rfl) ?_
 refine D_region ?_
 refine DL_c (op_mv _ (rfl : _ = AV.fp _ _)) ?_
 refine DL_c (op_mv _ (rfl : _ = AV.ptr _ _)) ?_
 refine DL_c (op_mf _ _ (rfl : _ = [_]) (rfl : _ = [])) ?_
 refine DL_c (op_callP inferInstance [((3, 9), (20, 0)), ((4, 8), (60, 0)), ((0, 8), (61, 0)), ((2, 8), (62, 0))] ?_ (hF) ⟨⟨rfl, ⟨_, rfl, .box rfl (lv_cons .sl (lv_cons .v lv_nil))⟩, rfl⟩, trivial⟩ ⟨rfl, rfl, rfl, rfl, trivial⟩ (by kernel_rfl)) ?_
 ·repeat' (first | exact argsR_nil | refine argsR_cons ?_ ?_ | exact Lv.v | exact Lv.fp | exact lvPr rfl | refine Lv.fn rfl ?_ rfl ?_ | exact lv_nil | refine lv_cons ?_ ?_)
 refine DL_c (op_mv _ (rfl : _ = AV.tup _)) ?_
 refine DL_c (op_ext _ rfl (rfl : _ = some (AV.ref _ _ _))) ?_
 refine DL_c (op_ext _ rfl (rfl : _ = some (AV.ref _ _ _))) ?_
 refine DL_c (op_ext _ rfl (rfl : _ = some (AV.v (.int _ _)))) ?_
 refine DL_c (op_as _ (rfl : _ = AV.ref _ _ _)) ?_
 refine DL_c (op_as _ (rfl : _ = AV.ref _ _ _)) ?_
 refine DL_c (op_as _ (rfl : _ = AV.v (.int _ _))) ?_
 refine DL_nil (hK6 _ ?_)
 clear hK6; try clear K6
 refine D_seq fun K7 hK7 => ?_
 refine D_region ?_
 refine DL_c (op_mv _ (rfl : _ = AV.v (.int _ _))) ?_
 refine DL_c (op_eql (r := true) _ _ rfl rfl rfl) ?_
 refine DL_c (op_mv _ (rfl : _ = AV.v (.bool _))) ?_
 refine DL_cy rfl rfl (op_mv _ (rfl : _ = AV.ref _ _ _)) ?_
 refine DL_cy rfl rfl (op_lenR _ inferInstance rfl rfl) ?_
 refine DL_cy rfl rfl (op_eql (r := true) _ _ rfl rfl rfl) ?_
 refine DL_c (op_pick _ _ _ rfl (rfl : _ = AV.v (.bool _))) ?_
 refine DL_c (op_mv _ (rfl : _ = AV.v (.bool _))) ?_
 refine DL_cy rfl rfl (op_mv _ (rfl : _ = AV.ref _ _ _)) ?_
 refine DL_cy rfl rfl (op_build _ inferInstance rfl (by exact (rfl : _ = some [_, _]))) ?_
 refine DL_cy rfl rfl (op_bsB (39, 0) 1 _ inferInstance (r := [[.v (.int .i64 2), .v (.slice none 0 0)]]) rfl rfl (by simp) (by decide) (by decide) rfl rfl) ?_
 refine DL_le (Le.trans (Le.frzRt (ys := blR [(2, [])]) 39 rfl rfl rfl (by rfl)) (Le.nil0 (39, 0) 1 rfl rfl)) ?_
 refine DL_cy rfl rfl (op_callBH inferInstance (by repeat' (first | exact argsLv_nil | refine argsLv_cons ?_ ?_ | exact Lv.sl | (refine frz0 rfl rfl ?_ rfl; (simp; done)))) (hS) rfl) ?_
 refine DL_c (op_pick _ _ _ rfl (rfl : _ = AV.v (.bool _))) ?_
 refine DL_c (op_mv _ (rfl : _ = AV.v (.bool _))) ?_
 refine DL_cy rfl rfl (op_mv _ (rfl : _ = AV.ref _ _ _)) ?_
 refine DL_cy rfl rfl (op_bsF _ _ inferInstance rfl (by rfl) (by simp <;> rfl) (by decide) rfl) ?_
 refine DL_cy rfl rfl (op_callBH inferInstance (by repeat' (first | exact argsLv_nil | refine argsLv_cons ?_ ?_ | exact Lv.sl | (refine frz0 rfl rfl ?_ rfl; (simp; done)))) (hO) rfl) ?_
 refine DL_c (op_pick _ _ _ rfl (rfl : _ = AV.v (.bool _))) ?_
 refine DL_c (op_as _ (rfl : _ = AV.v (.bool _))) ?_
 refine DL_nil (hK7 _ ?_)
 clear hK7; try clear K7
 refine D_ret ?_
 refine ret1 (.inr rfl) rfl (.tmp (rfl : _ = AV.v (.bool _))) (Le.out [] [] (lvB ?_) rfl rfl rfl trivial trivial)
 rfl
theorem bnd_law (n : Int) (h : -9223372036854775808 ≤ n ∧ n ≤ 9223372036854775807) : Spec Try.prog 25 (inSt [.v (.int .i64 n)] []) (outSt (.v (.bool true)) []) := by
 have ha := around_spec n 524288 (by decide) (by decide) h.1 h.2
 have hlo := around_lo n 524288 (by decide)
 have hhi := around_hi n 524288 (by decide)
 obtain ⟨k, hk⟩ := Int.eq_ofNat_of_zero_le hlo
 rw [hk] at ha hhi
 have hk2 : k < 524288 := by omega
 have hB := fun n hn => bound_spec n hn
 have hR := rbound_spec k (by omega)
 have b0 := hB 0 (by decide)
 have b1 := hB 1 (by decide)
 have bk := hB k (by omega)
 have bk1 := hB (k + 1) (by omega)
 have e0 : bnd 0 = 0 := rfl
 have e1 : bnd 1 = 1 := by unfold bnd; rw [if_neg (by decide), dgt_zero]
 have hm : bnd k ≤ bnd (k + 1) := by
  unfold bnd
  split
  ·exact Nat.zero_le _
  ·rw [if_neg (by omega)]
   have := dgt_mono (k + 1) (k - 1) (k + 1 - 1) (by omega) (by omega)
   omega
 have hbk : bnd k ≤ k + 1 := by
  unfold bnd
  split
  ·omega
  ·have := dgt_le (k - 1) (k - 1) (Nat.le_refl _)
   omega
 refine Spec.ofN Try.func25 rfl Try.ntmps25 rfl ?_
 refine D_seq fun K1 hK1 => ?_
 refine D_region ?_
 refine DL_c (op_as _ (rfl : _ = AV.v (.bool _))) ?_
 refine DL_nil (hK1 _ ?_)
 clear hK1; try clear K1
 refine D_seq fun K2 hK2 => ?_
 refine D_region ?_
 refine DL_c (op_mv _ (rfl : _ = AV.v (.int _ _))) ?_
 refine DL_c (op_callH inferInstance (by repeat' (first | exact argsLv_nil | refine argsLv_cons ?_ ?_ | exact Lv.v)) (ha) rfl rfl) ?_
 refine DL_c (op_as _ (rfl : _ = AV.v (.int _ _))) ?_
 refine DL_nil (hK2 _ ?_)
 clear hK2; try clear K2
 refine D_seq fun K3 hK3 => ?_
 refine D_seq fun K4 hK4 => ?_
 refine D_region ?_
 refine DL_c (op_mv _ (rfl : _ = AV.v (.int _ _))) ?_
 refine DL_c (op_callH inferInstance (by repeat' (first | exact argsLv_nil | refine argsLv_cons ?_ ?_ | exact Lv.v)) (bk) rfl rfl) ?_
 refine DL_c (op_mv _ (rfl : _ = AV.v (.int _ _))) ?_
 refine DL_c (op_callH inferInstance (by repeat' (first | exact argsLv_nil | refine argsLv_cons ?_ ?_ | exact Lv.v)) (hR) rfl rfl) ?_
 refine DL_c (op_neq (r := false) _ _ rfl rfl (by exact bne_self_eq_false _)) ?_
 refine DL_c (op_mv _ (rfl : _ = AV.v (.bool _))) ?_
 refine DL_cy rfl rfl (op_mv _ (rfl : _ = AV.v (.int _ _))) ?_
 refine DL_cy rfl rfl (op_add _ _ rfl rfl (i64w (by omega))) ?_
 refine DL_cy rfl rfl (op_callH inferInstance (by repeat' (first | exact argsLv_nil | refine argsLv_cons ?_ ?_ | exact Lv.v)) (bk1) rfl rfl) ?_
 refine DL_cy rfl rfl (op_mv _ (rfl : _ = AV.v (.int _ _))) ?_
 refine DL_cy rfl rfl (op_callH inferInstance (by repeat' (first | exact argsLv_nil | refine argsLv_cons ?_ ?_ | exact Lv.v)) (bk) rfl rfl) ?_
 refine DL_cy rfl rfl (op_lss (r := false) _ _ rfl rfl (by rw [decide_eq_false_iff_not]; omega)) ?_
 refine DL_c (op_pick _ _ _ rfl (rfl : _ = AV.v (.bool _))) ?_
 refine DL_c (op_mv _ (rfl : _ = AV.v (.bool _))) ?_
 refine DL_cy rfl rfl (op_callH inferInstance (by repeat' (first | exact argsLv_nil | refine argsLv_cons ?_ ?_ | exact Lv.v)) (b0) rfl rfl) ?_
 refine DL_cy rfl rfl (op_neq (r := false) _ _ rfl rfl (by rw [e0]; rfl)) ?_
 refine DL_c (op_pick _ _ _ rfl (rfl : _ = AV.v (.bool _))) ?_
 refine DL_c (op_mv _ (rfl : _ = AV.v (.bool _))) ?_
 refine DL_cy rfl rfl (op_callH inferInstance (by repeat' (first | exact argsLv_nil | refine argsLv_cons ?_ ?_ | exact Lv.v)) (b1) rfl rfl) ?_
 refine DL_cy rfl rfl (op_neq (r := false) _ _ rfl rfl (by rw [e1]; rfl)) ?_
 refine DL_c (op_pick _ _ _ rfl (rfl : _ = AV.v (.bool _))) ?_
 refine DL_nil (hK4 _ ?_)
 clear hK4; try clear K4
 refine D_cF rfl rfl ?_
 refine D_skip (hK3 _ ?_)
 clear hK3; try clear K3
 refine D_seq fun K5 hK5 => ?_
 refine D_seq fun K6 hK6 => ?_
 refine D_le (σ' := mkStI 53 [(3, _)] [] [] []) (by
  refine Le.mkJ [] [] rfl ?_ ?_ trivial trivial ?_
  ·exact ⟨(iV rfl), trivial⟩
  ·exact trivial
  ·kernel_rfl) ?_
 refine D_region ?_
 refine DL_c (op_mv _ (rfl : _ = AV.v (.int _ _))) ?_
 refine DL_c (op_lss _ _ rfl rfl rfl) ?_
 refine DL_nil (hK6 _ ?_)
 clear hK6; try clear K6
 refine D_splitC rfl (fun hc28 => ?_) (fun hc28 => ?_)
 ·skip
  refine D_seq fun K7 hK7 => ?_
  refine D_region ?_
  refine DL_c (op_callH inferInstance (by repeat' (exact argsLv_nil)) (lives33_spec) rfl rfl) ?_
  refine DL_c (op_as _ (rfl : _ = AV.v (.bool _))) ?_
  refine DL_nil (hK7 _ ?_)
  clear hK7; try clear K7
  refine D_ret ?_
  refine ret1 (.inr rfl) rfl (.tmp (rfl : _ = AV.v (.bool _))) (Le.out [] [] (lvB ?_) rfl rfl rfl trivial trivial)
  rfl
 ·skip
  have d1 : bnd (2 * (k - 1) + 1) = bnd k + 1 := by unfold bnd; rw [if_neg (by omega), if_neg (by omega), show 2 * (k - 1) + 1 - 1 = 2 * (k - 1) by omega, dgt_pos (show 0 < 2 * (k - 1) by omega), show 2 * (k - 1) / 2 = k - 1 by omega]; omega
  have d2 : bnd (2 * (k - 1) + 2) = bnd k + 1 := by unfold bnd; rw [if_neg (by omega), if_neg (by omega), show 2 * (k - 1) + 2 - 1 = 2 * (k - 1) + 1 by omega, dgt_pos (show 0 < 2 * (k - 1) + 1 by omega), show (2 * (k - 1) + 1) / 2 = k - 1 by omega]; omega
  have c1 := hB (2 * (k - 1) + 1) (by omega)
  have c2 := hB (2 * (k - 1) + 2) (by omega)
  rw [d1] at c1
  rw [d2] at c2
  have i1 : ((2 * (k - 1) + 1 : Nat) : Int) = 2 * ((k : Int) - 1) + 1 := by omega
  have i2 : ((2 * (k - 1) + 2 : Nat) : Int) = 2 * ((k : Int) - 1) + 2 := by omega
  rw [i1] at c1
  rw [i2] at c2
  refine D_skip (hK5 _ ?_)
  clear hK5; try clear K5
  refine D_seq fun K8 hK8 => ?_
  refine D_region ?_
  refine DL_c (op_mv _ (rfl : _ = AV.v (.int _ _))) ?_
  refine DL_c (op_sub _ _ rfl rfl (i64w (by omega))) ?_
  refine DL_c (op_mul _ _ rfl rfl (i64w (by omega))) ?_
  refine DL_c (op_add _ _ rfl rfl (i64w (by omega))) ?_
  refine DL_c (op_callH inferInstance (by repeat' (first | exact argsLv_nil | refine argsLv_cons ?_ ?_ | exact Lv.v)) (c1) rfl rfl) ?_
  refine DL_c (op_mv _ (rfl : _ = AV.v (.int _ _))) ?_
  refine DL_c (op_callH inferInstance (by repeat' (first | exact argsLv_nil | refine argsLv_cons ?_ ?_ | exact Lv.v)) (bk) rfl rfl) ?_
  refine DL_c (op_add _ _ rfl rfl (i64w (by omega))) ?_
  refine DL_c (op_eql (r := true) _ _ rfl rfl (by rw [beq_iff_eq]; omega)) ?_
  refine DL_c (op_mv _ (rfl : _ = AV.v (.bool _))) ?_
  refine DL_cy rfl rfl (op_mv _ (rfl : _ = AV.v (.int _ _))) ?_
  refine DL_cy rfl rfl (op_sub _ _ rfl rfl (i64w (by omega))) ?_
  refine DL_cy rfl rfl (op_mul _ _ rfl rfl (i64w (by omega))) ?_
  refine DL_cy rfl rfl (op_add _ _ rfl rfl (i64w (by omega))) ?_
  refine DL_cy rfl rfl (op_callH inferInstance (by repeat' (first | exact argsLv_nil | refine argsLv_cons ?_ ?_ | exact Lv.v)) (c2) rfl rfl) ?_
  refine DL_cy rfl rfl (op_mv _ (rfl : _ = AV.v (.int _ _))) ?_
  refine DL_cy rfl rfl (op_callH inferInstance (by repeat' (first | exact argsLv_nil | refine argsLv_cons ?_ ?_ | exact Lv.v)) (bk) rfl rfl) ?_
  refine DL_cy rfl rfl (op_add _ _ rfl rfl (i64w (by omega))) ?_
  refine DL_cy rfl rfl (op_eql (r := true) _ _ rfl rfl (by rw [beq_iff_eq]; omega)) ?_
  refine DL_c (op_pick _ _ _ rfl (rfl : _ = AV.v (.bool _))) ?_
  refine DL_c (op_mv _ (rfl : _ = AV.v (.bool _))) ?_
  refine DL_cy rfl rfl (op_callH inferInstance (by repeat' (exact argsLv_nil)) (lives33_spec) rfl rfl) ?_
  refine DL_c (op_pick _ _ _ rfl (rfl : _ = AV.v (.bool _))) ?_
  refine DL_c (op_as _ (rfl : _ = AV.v (.bool _))) ?_
  refine DL_nil (hK8 _ ?_)
  clear hK8; try clear K8
  refine D_ret ?_
  refine ret1 (.inr rfl) rfl (.tmp (rfl : _ = AV.v (.bool _))) (Le.out [] [] (lvB ?_) rfl rfl rfl trivial trivial)
  rfl
end Go.Proofs.Ytkbkmngbenohkaa
