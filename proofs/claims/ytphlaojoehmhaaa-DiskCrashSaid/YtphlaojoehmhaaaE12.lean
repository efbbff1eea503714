/- The disk's functions by the machine: built, Built, lives. -/
import Derived.Test.YtphlaojoehmhaaaE11
set_option linter.unusedSimpArgs false
set_option linter.unusedVariables false
namespace Go.Proofs.Ytphlaojoehmhaaa
open Go.RowKit

theorem Ok.snoc' {n : Nat} {ps : List (Int × Int)} (h : Ok n ps) {c v : Int} (h0 : 0 ≤ c) (h1 : c < (n : Int)) : Ok n (ps ++ [(c, v)]) := by
  intro p hp
  rcases List.mem_append.1 hp with hp | hp
  · exact h p hp
  · simp at hp; subst hp; exact ⟨h0, h1⟩
theorem Ok.drop' {n : Nat} {ps : List (Int × Int)} (h : Ok n ps) (k : Nat) : Ok n (ps.drop k) := fun p hp => h p (List.mem_of_mem_drop hp)
/-- What every disk of the laws is. -/
structure Good (s : List Int × List (Int × Int)) : Prop where
  n : s.1.length ≤ 16
  m : s.2.length ≤ 4
  ok : Ok s.1.length s.2
theorem Ok.nil (n : Nat) : Ok n [] := fun p hp => by simp at hp
theorem Good.step {s : List Int × List (Int × Int)} (h : Good s) (d c v : Int) (bs : List Bool) (h3 : d = 3 → 0 ≤ c ∧ c ≤ 16) : Good (step s.1 s.2 d c v bs) := by
  obtain ⟨hn, hm, hok⟩ := h
  unfold Ytphlaojoehmhaaa.step
  split
  · exact ⟨by rw [length_app]; exact hn, by simp, Ok.nil _⟩
  split
  · exact ⟨by rw [length_app]; exact hn, by simp, Ok.nil _⟩
  split
  · rename_i h
    have := h3 h
    exact ⟨by rw [length_fit]; omega, by simp, Ok.nil _⟩
  split
  · exact ⟨hn, hm, hok⟩
  have hc0 : 0 ≤ c := by omega
  have hc1 : c < (s.1.length : Int) := by omega
  split
  · exact ⟨hn, by simp; omega, Ok.snoc' hok hc0 hc1⟩
  · refine ⟨by rw [length_app]; exact hn, by simp; omega, ?_⟩
    rw [length_app]
    exact Ok.drop' (Ok.snoc' hok hc0 hc1) 1
def stp (s : List Int × List (Int × Int)) (x : Int) : List Int × List (Int × Int) := step s.1 s.2 (opD (around x 1000000)) (opC (around x 1000000)) (opV (around x 1000000)) (opB (around x 1000000))
def start (k : Nat) : List Int × List (Int × Int) := (List.replicate k 0, [])
def run (k : Nat) (L : List Int) : List Int × List (Int × Int) := L.foldl stp (start k)
theorem run_snoc (k : Nat) (L : List Int) (i : Nat) (h : i < L.length) : run k (L.take (i + 1)) = stp (run k (L.take i)) (L.getD i 0) := by
  rw [getD_at _ _ _ h, List.take_succ_eq_append_getElem h]; simp only [run, List.foldl_append, List.foldl_cons, List.foldl_nil]
theorem opC_ok (n : Int) (h : opD n = 3) : 0 ≤ opC n ∧ opC n ≤ 16 := by
  rcases op_five n with h' | h' | h' | h' | h'
  all_goals simp [opD, h'] at h
  unfold opC
  rw [if_pos h']
  omega
theorem Good.start (k : Nat) (h : k ≤ 16) : Good (start k) := ⟨by simp [Ytphlaojoehmhaaa.start]; omega, by simp [Ytphlaojoehmhaaa.start], Ok.nil _⟩
theorem Good.stp {s : List Int × List (Int × Int)} (h : Good s) (x : Int) : Good (stp s x) := h.step _ _ _ _ (opC_ok _)
theorem Good.run (k : Nat) (h : k ≤ 16) (L : List Int) : Good (run k L) := by
  have key : ∀ (L : List Int) s, Good s → Good (L.foldl Ytphlaojoehmhaaa.stp s) := by
    intro L
    induction L with
    | nil => exact fun s h => h
    | cons x L ih => exact fun s h => ih _ (h.stp x)
  exact key L _ (Good.start k h)
theorem opB_len (n : Int) (h0 : 0 ≤ n) : (opB n).length ≤ 5 := by
  unfold opB
  split
  · rw [bits_len]; omega
  · simp
theorem opl_at (l : List Int) (k : Nat) (h : k < l.length) : PV.ups (((opl l).drop (k * 4)).take 4) = [AV.v (.int .i64 (opD (around (l.getD k 0) 1000000))), .v (.int .i64 (opC (around (l.getD k 0) 1000000))), .v (.int .i64 (opV (around (l.getD k 0) 1000000))), .sl (opB (around (l.getD k 0) 1000000)).length (bsl (opB (around (l.getD k 0) 1000000)))] := by
  have key : ∀ (l : List Int) k, (opl l).drop (k * 4) = opl (l.drop k) := by
    intro l
    induction l with
    | nil => intro k; simp [opl]
    | cons p l ih =>
      intro k
      cases k with
      | zero => simp
      | succ k =>
        have : opl (p :: l) = opc (around p 1000000) ++ opl l := rfl
        rw [this, show (k + 1) * 4 = 4 + k * 4 by omega, ← List.drop_drop]
        simpa [opc] using ih k
  rw [key, List.drop_eq_getElem_cons h, getD_at l k _ h]; rfl
theorem new_int (c : Int) (h0 : 0 ≤ c) (h1 : c ≤ 1000000) : Spec Try.prog 11 (inSt [.v (.int .i64 c)] []) (outSt (.agg [.sl (start c.toNat).1.length (isl (start c.toNat).1), .sl (start c.toNat).2.length (wsl (start c.toNat).2)]) []) := by
  obtain ⟨k, rfl⟩ := Int.eq_ofNat_of_zero_le h0
  have := new_spec k (by omega)
  simpa [start, wsl] using this
theorem rnew_int (c : Int) (h0 : 0 ≤ c) (h1 : c ≤ 1000000) : Spec Try.prog 15 (inSt [.v (.int .i64 c)] []) (outSt (.agg [.sl (start c.toNat).1.length (isl (start c.toNat).1), .sl (start c.toNat).2.length (wsl (start c.toNat).2)]) []) := by
  obtain ⟨k, rfl⟩ := Int.eq_ofNat_of_zero_le h0
  have := rnew_spec k (by omega)
  simpa [start, wsl] using this
theorem do_good (s : List Int × List (Int × Int)) (h : Good s) (x : Int) :
    Spec Try.prog 17 (inSt [.agg [.sl (s).1.length (isl (s).1), .sl (s).2.length (wsl (s).2)], .agg [.v (.int .i64 (opD (around x 1000000))), .v (.int .i64 (opC (around x 1000000))), .v (.int .i64 (opV (around x 1000000))), .sl (opB (around x 1000000)).length (bsl (opB (around x 1000000)))]] []) (outSt (.agg [.sl (stp s x).1.length (isl (stp s x).1), .sl (stp s x).2.length (wsl (stp s x).2)]) []) :=
  do_spec _ _ _ s.1 s.2 _ _ _ _ rfl rfl rfl (by have := h.n; omega) (by have := h.m; omega) (by have := opB_len _ (around_lo x 1000000 (by omega)); omega) h.ok (fun e => by have := opC_ok _ e; omega)
theorem rdo_good (s : List Int × List (Int × Int)) (h : Good s) (x : Int) :
    Spec Try.prog 18 (inSt [.agg [.sl (s).1.length (isl (s).1), .sl (s).2.length (wsl (s).2)], .agg [.v (.int .i64 (opD (around x 1000000))), .v (.int .i64 (opC (around x 1000000))), .v (.int .i64 (opV (around x 1000000))), .sl (opB (around x 1000000)).length (bsl (opB (around x 1000000)))]] []) (outSt (.agg [.sl (stp s x).1.length (isl (stp s x).1), .sl (stp s x).2.length (wsl (stp s x).2)]) []) :=
  rdo_spec _ _ _ s.1 s.2 _ _ _ _ rfl rfl rfl (by have := h.n; omega) (by have := h.m; omega) (by have := opB_len _ (around_lo x 1000000 (by omega)); omega) h.ok (fun e => by have := opC_ok _ e; omega)

theorem built_spec (cells : Int) (hc : -9223372036854775808 ≤ cells ∧ cells ≤ 9223372036854775807) (nl : Nat) (ls : List Int) (hn : ls.length = nl) (h1 : nl ≤ 9223372036854775807) (hr : Rng ls) :
    Spec Try.prog 22 (inSt [.v (.int .i64 cells), .sl nl (isl ls)] []) (outSt (.agg [.sl (run (around cells 7).toNat (ls.take 20)).1.length (isl (run (around cells 7).toNat (ls.take 20)).1), .sl (run (around cells 7).toNat (ls.take 20)).2.length (wsl (run (around cells 7).toNat (ls.take 20)).2)]) []) := by
  have ha0 := around_lo cells 7 (by omega)
  have ha1 := around_hi cells 7 (by omega)
  have har := around_spec cells 7 (by omega) (by omega) hc.1 hc.2
  have hop := ops_spec nl ls hn h1 hr
  have hL : (ls.take 20).length ≤ 20 := by rw [List.length_take]; omega
  generalize ls.take 20 = L at *
  generalize hk : around cells 7 = c at *
  refine Spec.ofN Try.func22 rfl Try.ntmps22 rfl ?_
  refine D_seq fun K1 hK1 => ?_
  refine D_region ?_
  refine DL_c (op_alloc (4, 0) inferInstance rfl rfl) ?_
  refine DL_nil (hK1 _ ?_)
  clear hK1; try clear K1
  refine D_seq fun K2 hK2 => ?_
  refine D_region ?_
  refine DL_c (op_mv _ (rfl : _ = AV.v (.int _ _))) ?_
  refine DL_c (op_callH inferInstance (by repeat' (first | exact argsLv_nil | refine argsLv_cons ?_ ?_ | exact Lv.v | exact Lv.sl | exact Lv.fp | exact Lv.nil | refine Lv.agg rfl ?_ | exact lv_nil | refine lv_cons ?_ ?_)) (har) rfl rfl) ?_
  refine DL_c (op_callH inferInstance (by repeat' (first | exact argsLv_nil | refine argsLv_cons ?_ ?_ | exact Lv.v | exact Lv.sl | exact Lv.fp | exact Lv.nil | refine Lv.agg rfl ?_ | exact lv_nil | refine lv_cons ?_ ?_)) (new_int c (by omega) (by omega)) rfl rfl) ?_
  refine DL_c (op_alloc (5, 0) inferInstance rfl rfl) ?_
  first
    | refine DL_c (op_stB _ _ inferInstance rfl rfl rfl rfl (Nat.le_of_ble_eq_true rfl) rfl) ?_
    | refine DL_c (op_stR _ _ inferInstance rfl rfl rfl rfl rfl (by first | exact Nat.le_of_ble_eq_true rfl | (simp; omega)) rfl) ?_
  refine DL_nil (hK2 _ ?_)
  clear hK2; try clear K2
  refine D_seq fun K3 hK3 => ?_
  refine D_region ?_
  first
    | refine DL_c (op_mv _ (rfl : _ = AV.sl _ _)) ?_
    | refine DL_c (op_mv _ (rfl : _ = AV.ref _ _ _)) ?_
    | refine DL_c (op_mv _ (rfl : _ = AV.v (.slice _ _ _))) ?_
  refine DL_c (op_callH inferInstance (by repeat' (first | exact argsLv_nil | refine argsLv_cons ?_ ?_ | exact Lv.v | exact Lv.sl | exact Lv.fp | exact Lv.nil | refine Lv.agg rfl ?_ | exact lv_nil | refine lv_cons ?_ ?_)) (hop) rfl rfl) ?_
  first
    | refine DL_c (op_as _ (rfl : _ = AV.sl _ _)) ?_
    | refine DL_c (op_as _ (rfl : _ = AV.ref _ _ _)) ?_
    | refine DL_c (op_as _ (rfl : _ = AV.v (.slice _ _ _))) ?_
  refine DL_nil (hK3 _ ?_)
  clear hK3; try clear K3
  refine D_seq fun K4 hK4 => ?_
  refine D_seq fun K5 hK5 => ?_
  refine D_region ?_
  refine DL_c (op_as _ (rfl : _ = AV.v (.int _ _))) ?_
  refine DL_nil (hK5 _ ?_)
  clear hK5; try clear K5
  refine D_block ?_
  refine D_loopP (fun i : Nat => i ≤ L.length) (fun i => mkSt 26 [(4, .ptr (4, 0) 0), (5, .ptr (5, 0) 0), (6, .sl L.length (opl L)), (7, .v (.int .i64 (i : Int)))] [((4, 0), .box 26 [.v (.slice none 0 0), .v (.slice none 0 0)]), ((5, 0), .box 26 [.sl (run c.toNat (L.take i)).1.length (isl (run c.toNat (L.take i)).1), .sl (run c.toNat (L.take i)).2.length (wsl (run c.toNat (L.take i)).2)])]) (fun i => L.length - i) 0 ?_ ?_ ?_
  · omega
  · exact Le.mk [] [] rfl ⟨.ptr, .ptr, .sl, .v, trivial⟩ rfl rfl rfl trivial ⟨⟨rfl, ⟨_, rfl, .box rfl (lv_cons .v (lv_cons .v lv_nil))⟩, rfl⟩, ⟨rfl, ⟨_, rfl, .box rfl (lv_cons .sl (lv_cons .sl lv_nil))⟩, rfl⟩, trivial⟩
  · rintro i hi
    refine D_seq fun K6 hK6 => ?_
    refine D_seq fun K7 hK7 => ?_
    refine D_region ?_
    refine DL_c (op_mv _ (rfl : _ = AV.v (.int _ _))) ?_
    first
      | refine DL_c (op_mv _ (rfl : _ = AV.sl _ _)) ?_
      | refine DL_c (op_mv _ (rfl : _ = AV.ref _ _ _)) ?_
      | refine DL_c (op_mv _ (rfl : _ = AV.v (.slice _ _ _))) ?_
    first
      | refine DL_c (op_lenS _ inferInstance rfl) ?_
      | refine DL_c (op_lenR _ inferInstance rfl rfl) ?_
      | refine DL_c (op_lenN _ inferInstance rfl) ?_
    refine DL_c (op_lss _ _ rfl rfl rfl) ?_
    refine DL_nil (hK7 _ ?_)
    clear hK7; try clear K7
    refine D_split rfl (fun hc16 => ?_) (fun hc16 => ?_)
    · try simp only [decide_eq_true_eq, decide_eq_false_iff_not, bne_iff_ne, bne_eq_false_iff_eq, beq_iff_eq, beq_eq_false_iff_ne, Bool.not_eq_true', Bool.not_eq_false', ne_eq, Int.not_lt, Int.not_le] at hc16
      have hiL : i < L.length := by omega
      have hsn := run_snoc c.toNat L i hiL
      have hg := Good.run c.toNat (by omega) (L.take i)
      refine D_skip (hK6 _ ?_)
      clear hK6; try clear K6
      refine D_seq fun K8 hK8 => ?_
      refine D_block ?_
      refine D_any 6 [19, 20, 21, 22, 23, 24] [] (by kernel_rfl) (by kernel_rfl) rfl (nodupO_iff rfl) ?_
      first
        | refine any_c (_, none) (fun τ => op_ldBA _ inferInstance rfl rfl rfl rfl) ?_
        | refine any_c (_, none) (fun τ => op_ldRA _ inferInstance rfl rfl (by first | rfl | assumption) rfl) ?_
        | refine any_c (_, none) (fun τ => op_ldFA _ inferInstance rfl (by first | rfl | assumption) rfl) ?_
      first
        | refine any_c (_, none) (fun τ => op_mv _ (rfl : _ = AV.sl _ _)) ?_
        | refine any_c (_, none) (fun τ => op_mv _ (rfl : _ = AV.ref _ _ _)) ?_
        | refine any_c (_, none) (fun τ => op_mv _ (rfl : _ = AV.v (.slice _ _ _))) ?_
      refine any_c (_, none) (fun τ => op_mv _ (rfl : _ = AV.v (.int _ _))) ?_
      first
        | refine any_c (_, none) (fun τ => op_ixS _ _ inferInstance rfl rfl _ rfl (by omega) (by first | assumption | decide | (simp [isl]; omega)) (by first | exact Nat.mul_one _ | rfl)) ?_
        | refine any_c (_, none) (fun τ => op_ixS _ _ inferInstance rfl rfl 0 rfl (by omega) (by first | assumption | decide | (simp [isl]; omega)) (by first | exact Nat.mul_one _ | rfl)) ?_
        | refine any_c (_, none) (fun τ => op_ixS _ _ inferInstance rfl rfl 1 rfl (by omega) (by first | assumption | decide | (simp [isl]; omega)) (by first | exact Nat.mul_one _ | rfl)) ?_
        | refine any_c (_, none) (fun τ => op_ixS _ _ inferInstance rfl rfl (Int.toNat _) (Int.toNat_of_nonneg (by omega)).symm (by omega) (by first | assumption | decide | (simp [isl]; omega)) (by first | exact Nat.mul_one _ | rfl)) ?_
        | refine any_c (_, none) (fun τ => op_ixR _ _ inferInstance rfl rfl rfl _ rfl (by omega) (by first | exact Nat.mul_one _ | rfl)) ?_
        | refine any_c (_, none) (fun τ => op_ixR _ _ inferInstance rfl rfl rfl 0 rfl (by omega) (by first | exact Nat.mul_one _ | rfl)) ?_
        | refine any_c (_, none) (fun τ => op_ixR _ _ inferInstance rfl rfl rfl 1 rfl (by omega) (by first | exact Nat.mul_one _ | rfl)) ?_
        | refine any_c (_, none) (fun τ => op_ixR _ _ inferInstance rfl rfl rfl (Int.toNat _) (Int.toNat_of_nonneg (by omega)).symm (by omega) (by first | exact Nat.mul_one _ | rfl)) ?_
      refine any_c (_, none) (fun τ => op_ldFA _ inferInstance rfl (by exact opl_at _ _ (by omega)) rfl) ?_
      refine any_c (_, none) (fun τ => op_callH inferInstance (by repeat' (first | exact argsLv_nil | refine argsLv_cons ?_ ?_ | exact Lv.v | exact Lv.sl | exact Lv.fp | exact Lv.nil | refine Lv.agg rfl ?_ | exact lv_nil | refine lv_cons ?_ ?_)) (do_good _ hg (L.getD i 0)) rfl rfl) ?_
      refine any_end ⟨rfl, ?_⟩
      simp only [List.drop_succ_cons, List.drop_zero, List.drop_nil]
      first
        | refine DL_c (op_stB _ _ inferInstance rfl rfl rfl rfl (Nat.le_of_ble_eq_true rfl) rfl) ?_
        | refine DL_c (op_stR _ _ inferInstance rfl rfl rfl rfl rfl (by first | exact Nat.le_of_ble_eq_true rfl | (simp; omega)) rfl) ?_
      refine DL_nil (hK8 _ ?_)
      clear hK8; try clear K8
      refine D_region ?_
      refine DL_c (op_mv _ (rfl : _ = AV.v (.int _ _))) ?_
      first
        | refine DL_c (op_add _ _ rfl rfl (i64w (by omega))) ?_
        | refine DL_c (op_add _ _ rfl rfl rfl) ?_
      refine DL_c (op_as _ (rfl : _ = AV.v (.int _ _))) ?_
      refine DL_nil ?_
      refine ⟨i + 1, by omega, Le.mk [] [] rfl ⟨.ptr, .ptr, .sl, lvI (by omega), trivial⟩ rfl rfl rfl trivial ⟨⟨rfl, ⟨_, rfl, .box rfl (lv_cons .v (lv_cons .v lv_nil))⟩, rfl⟩, ⟨rfl, ⟨_, rfl, .box rfl (lv_cons (lvS ?_ ?_) (lv_cons (lvS ?_ ?_) lv_nil))⟩, rfl⟩, trivial⟩, by omega⟩
      all_goals rw [hsn]
    · try simp only [decide_eq_true_eq, decide_eq_false_iff_not, bne_iff_ne, bne_eq_false_iff_eq, beq_iff_eq, beq_eq_false_iff_ne, Bool.not_eq_true', Bool.not_eq_false', ne_eq, Int.not_lt, Int.not_le] at hc16
      refine D_exit ?_
      refine id (hK4 _ ?_)
      clear hK4; try clear K4
      refine D_seq fun K9 hK9 => ?_
      refine D_region ?_
      first
        | refine DL_c (op_ldBA _ inferInstance rfl rfl rfl rfl) ?_
        | refine DL_c (op_ldRA _ inferInstance rfl rfl (by first | rfl | assumption) rfl) ?_
        | refine DL_c (op_ldFA _ inferInstance rfl (by first | rfl | assumption) rfl) ?_
      first
        | refine DL_c (op_stB _ _ inferInstance rfl rfl rfl rfl (Nat.le_of_ble_eq_true rfl) rfl) ?_
        | refine DL_c (op_stR _ _ inferInstance rfl rfl rfl rfl rfl (by first | exact Nat.le_of_ble_eq_true rfl | (simp; omega)) rfl) ?_
      refine DL_nil (hK9 _ ?_)
      clear hK9; try clear K9
      refine D_ret ?_
      refine ret1 (.inr rfl) rfl (.cellA inferInstance rfl rfl rfl) ?_
      have e : L.take i = L := List.take_of_length_le (by omega)
      refine Le.out [] [] (.agg rfl (lv_cons (lvS ?_ ?_) (lv_cons (lvS ?_ ?_) lv_nil))) rfl rfl rfl trivial trivial
      all_goals rw [e]
theorem rbuilt_spec (cells : Int) (hc : -9223372036854775808 ≤ cells ∧ cells ≤ 9223372036854775807) (nl : Nat) (ls : List Int) (hn : ls.length = nl) (h1 : nl ≤ 9223372036854775807) (hr : Rng ls) :
    Spec Try.prog 26 (inSt [.v (.int .i64 cells), .sl nl (isl ls)] []) (outSt (.agg [.sl (run (around cells 7).toNat (ls.take 20)).1.length (isl (run (around cells 7).toNat (ls.take 20)).1), .sl (run (around cells 7).toNat (ls.take 20)).2.length (wsl (run (around cells 7).toNat (ls.take 20)).2)]) []) := by
  have ha0 := around_lo cells 7 (by omega)
  have ha1 := around_hi cells 7 (by omega)
  have har := around_spec cells 7 (by omega) (by omega) hc.1 hc.2
  have hop := ops_spec nl ls hn h1 hr
  have hL : (ls.take 20).length ≤ 20 := by rw [List.length_take]; omega
  generalize ls.take 20 = L at *
  generalize hk : around cells 7 = c at *
  refine Spec.ofN Try.func26 rfl Try.ntmps26 rfl ?_
  refine D_seq fun K1 hK1 => ?_
  refine D_region ?_
  refine DL_c (op_alloc (4, 0) inferInstance rfl rfl) ?_
  refine DL_nil (hK1 _ ?_)
  clear hK1; try clear K1
  refine D_seq fun K2 hK2 => ?_
  refine D_region ?_
  refine DL_c (op_mv _ (rfl : _ = AV.v (.int _ _))) ?_
  refine DL_c (op_callH inferInstance (by repeat' (first | exact argsLv_nil | refine argsLv_cons ?_ ?_ | exact Lv.v | exact Lv.sl | exact Lv.fp | exact Lv.nil | refine Lv.agg rfl ?_ | exact lv_nil | refine lv_cons ?_ ?_)) (har) rfl rfl) ?_
  refine DL_c (op_callH inferInstance (by repeat' (first | exact argsLv_nil | refine argsLv_cons ?_ ?_ | exact Lv.v | exact Lv.sl | exact Lv.fp | exact Lv.nil | refine Lv.agg rfl ?_ | exact lv_nil | refine lv_cons ?_ ?_)) (rnew_int c (by omega) (by omega)) rfl rfl) ?_
  refine DL_c (op_alloc (5, 0) inferInstance rfl rfl) ?_
  first
    | refine DL_c (op_stB _ _ inferInstance rfl rfl rfl rfl (Nat.le_of_ble_eq_true rfl) rfl) ?_
    | refine DL_c (op_stR _ _ inferInstance rfl rfl rfl rfl rfl (by first | exact Nat.le_of_ble_eq_true rfl | (simp; omega)) rfl) ?_
  refine DL_nil (hK2 _ ?_)
  clear hK2; try clear K2
  refine D_seq fun K3 hK3 => ?_
  refine D_region ?_
  first
    | refine DL_c (op_mv _ (rfl : _ = AV.sl _ _)) ?_
    | refine DL_c (op_mv _ (rfl : _ = AV.ref _ _ _)) ?_
    | refine DL_c (op_mv _ (rfl : _ = AV.v (.slice _ _ _))) ?_
  refine DL_c (op_callH inferInstance (by repeat' (first | exact argsLv_nil | refine argsLv_cons ?_ ?_ | exact Lv.v | exact Lv.sl | exact Lv.fp | exact Lv.nil | refine Lv.agg rfl ?_ | exact lv_nil | refine lv_cons ?_ ?_)) (hop) rfl rfl) ?_
  first
    | refine DL_c (op_as _ (rfl : _ = AV.sl _ _)) ?_
    | refine DL_c (op_as _ (rfl : _ = AV.ref _ _ _)) ?_
    | refine DL_c (op_as _ (rfl : _ = AV.v (.slice _ _ _))) ?_
  refine DL_nil (hK3 _ ?_)
  clear hK3; try clear K3
  refine D_seq fun K4 hK4 => ?_
  refine D_seq fun K5 hK5 => ?_
  refine D_region ?_
  refine DL_c (op_as _ (rfl : _ = AV.v (.int _ _))) ?_
  refine DL_nil (hK5 _ ?_)
  clear hK5; try clear K5
  refine D_block ?_
  refine D_loopP (fun i : Nat => i ≤ L.length) (fun i => mkSt 26 [(4, .ptr (4, 0) 0), (5, .ptr (5, 0) 0), (6, .sl L.length (opl L)), (7, .v (.int .i64 (i : Int)))] [((4, 0), .box 26 [.v (.slice none 0 0), .v (.slice none 0 0)]), ((5, 0), .box 26 [.sl (run c.toNat (L.take i)).1.length (isl (run c.toNat (L.take i)).1), .sl (run c.toNat (L.take i)).2.length (wsl (run c.toNat (L.take i)).2)])]) (fun i => L.length - i) 0 ?_ ?_ ?_
  · omega
  · exact Le.mk [] [] rfl ⟨.ptr, .ptr, .sl, .v, trivial⟩ rfl rfl rfl trivial ⟨⟨rfl, ⟨_, rfl, .box rfl (lv_cons .v (lv_cons .v lv_nil))⟩, rfl⟩, ⟨rfl, ⟨_, rfl, .box rfl (lv_cons .sl (lv_cons .sl lv_nil))⟩, rfl⟩, trivial⟩
  · rintro i hi
    refine D_seq fun K6 hK6 => ?_
    refine D_seq fun K7 hK7 => ?_
    refine D_region ?_
    refine DL_c (op_mv _ (rfl : _ = AV.v (.int _ _))) ?_
    first
      | refine DL_c (op_mv _ (rfl : _ = AV.sl _ _)) ?_
      | refine DL_c (op_mv _ (rfl : _ = AV.ref _ _ _)) ?_
      | refine DL_c (op_mv _ (rfl : _ = AV.v (.slice _ _ _))) ?_
    first
      | refine DL_c (op_lenS _ inferInstance rfl) ?_
      | refine DL_c (op_lenR _ inferInstance rfl rfl) ?_
      | refine DL_c (op_lenN _ inferInstance rfl) ?_
    refine DL_c (op_lss _ _ rfl rfl rfl) ?_
    refine DL_nil (hK7 _ ?_)
    clear hK7; try clear K7
    refine D_split rfl (fun hc16 => ?_) (fun hc16 => ?_)
    · try simp only [decide_eq_true_eq, decide_eq_false_iff_not, bne_iff_ne, bne_eq_false_iff_eq, beq_iff_eq, beq_eq_false_iff_ne, Bool.not_eq_true', Bool.not_eq_false', ne_eq, Int.not_lt, Int.not_le] at hc16
      have hiL : i < L.length := by omega
      have hsn := run_snoc c.toNat L i hiL
      have hg := Good.run c.toNat (by omega) (L.take i)
      refine D_skip (hK6 _ ?_)
      clear hK6; try clear K6
      refine D_seq fun K8 hK8 => ?_
      refine D_block ?_
      refine D_any 6 [19, 20, 21, 22, 23, 24] [] (by kernel_rfl) (by kernel_rfl) rfl (nodupO_iff rfl) ?_
      first
        | refine any_c (_, none) (fun τ => op_ldBA _ inferInstance rfl rfl rfl rfl) ?_
        | refine any_c (_, none) (fun τ => op_ldRA _ inferInstance rfl rfl (by first | rfl | assumption) rfl) ?_
        | refine any_c (_, none) (fun τ => op_ldFA _ inferInstance rfl (by first | rfl | assumption) rfl) ?_
      first
        | refine any_c (_, none) (fun τ => op_mv _ (rfl : _ = AV.sl _ _)) ?_
        | refine any_c (_, none) (fun τ => op_mv _ (rfl : _ = AV.ref _ _ _)) ?_
        | refine any_c (_, none) (fun τ => op_mv _ (rfl : _ = AV.v (.slice _ _ _))) ?_
      refine any_c (_, none) (fun τ => op_mv _ (rfl : _ = AV.v (.int _ _))) ?_
      first
        | refine any_c (_, none) (fun τ => op_ixS _ _ inferInstance rfl rfl _ rfl (by omega) (by first | assumption | decide | (simp [isl]; omega)) (by first | exact Nat.mul_one _ | rfl)) ?_
        | refine any_c (_, none) (fun τ => op_ixS _ _ inferInstance rfl rfl 0 rfl (by omega) (by first | assumption | decide | (simp [isl]; omega)) (by first | exact Nat.mul_one _ | rfl)) ?_
        | refine any_c (_, none) (fun τ => op_ixS _ _ inferInstance rfl rfl 1 rfl (by omega) (by first | assumption | decide | (simp [isl]; omega)) (by first | exact Nat.mul_one _ | rfl)) ?_
        | refine any_c (_, none) (fun τ => op_ixS _ _ inferInstance rfl rfl (Int.toNat _) (Int.toNat_of_nonneg (by omega)).symm (by omega) (by first | assumption | decide | (simp [isl]; omega)) (by first | exact Nat.mul_one _ | rfl)) ?_
        | refine any_c (_, none) (fun τ => op_ixR _ _ inferInstance rfl rfl rfl _ rfl (by omega) (by first | exact Nat.mul_one _ | rfl)) ?_
        | refine any_c (_, none) (fun τ => op_ixR _ _ inferInstance rfl rfl rfl 0 rfl (by omega) (by first | exact Nat.mul_one _ | rfl)) ?_
        | refine any_c (_, none) (fun τ => op_ixR _ _ inferInstance rfl rfl rfl 1 rfl (by omega) (by first | exact Nat.mul_one _ | rfl)) ?_
        | refine any_c (_, none) (fun τ => op_ixR _ _ inferInstance rfl rfl rfl (Int.toNat _) (Int.toNat_of_nonneg (by omega)).symm (by omega) (by first | exact Nat.mul_one _ | rfl)) ?_
      refine any_c (_, none) (fun τ => op_ldFA _ inferInstance rfl (by exact opl_at _ _ (by omega)) rfl) ?_
      refine any_c (_, none) (fun τ => op_callH inferInstance (by repeat' (first | exact argsLv_nil | refine argsLv_cons ?_ ?_ | exact Lv.v | exact Lv.sl | exact Lv.fp | exact Lv.nil | refine Lv.agg rfl ?_ | exact lv_nil | refine lv_cons ?_ ?_)) (rdo_good _ hg (L.getD i 0)) rfl rfl) ?_
      refine any_end ⟨rfl, ?_⟩
      simp only [List.drop_succ_cons, List.drop_zero, List.drop_nil]
      first
        | refine DL_c (op_stB _ _ inferInstance rfl rfl rfl rfl (Nat.le_of_ble_eq_true rfl) rfl) ?_
        | refine DL_c (op_stR _ _ inferInstance rfl rfl rfl rfl rfl (by first | exact Nat.le_of_ble_eq_true rfl | (simp; omega)) rfl) ?_
      refine DL_nil (hK8 _ ?_)
      clear hK8; try clear K8
      refine D_region ?_
      refine DL_c (op_mv _ (rfl : _ = AV.v (.int _ _))) ?_
      first
        | refine DL_c (op_add _ _ rfl rfl (i64w (by omega))) ?_
        | refine DL_c (op_add _ _ rfl rfl rfl) ?_
      refine DL_c (op_as _ (rfl : _ = AV.v (.int _ _))) ?_
      refine DL_nil ?_
      refine ⟨i + 1, by omega, Le.mk [] [] rfl ⟨.ptr, .ptr, .sl, lvI (by omega), trivial⟩ rfl rfl rfl trivial ⟨⟨rfl, ⟨_, rfl, .box rfl (lv_cons .v (lv_cons .v lv_nil))⟩, rfl⟩, ⟨rfl, ⟨_, rfl, .box rfl (lv_cons (lvS ?_ ?_) (lv_cons (lvS ?_ ?_) lv_nil))⟩, rfl⟩, trivial⟩, by omega⟩
      all_goals rw [hsn]
    · try simp only [decide_eq_true_eq, decide_eq_false_iff_not, bne_iff_ne, bne_eq_false_iff_eq, beq_iff_eq, beq_eq_false_iff_ne, Bool.not_eq_true', Bool.not_eq_false', ne_eq, Int.not_lt, Int.not_le] at hc16
      refine D_exit ?_
      refine id (hK4 _ ?_)
      clear hK4; try clear K4
      refine D_seq fun K9 hK9 => ?_
      refine D_region ?_
      first
        | refine DL_c (op_ldBA _ inferInstance rfl rfl rfl rfl) ?_
        | refine DL_c (op_ldRA _ inferInstance rfl rfl (by first | rfl | assumption) rfl) ?_
        | refine DL_c (op_ldFA _ inferInstance rfl (by first | rfl | assumption) rfl) ?_
      first
        | refine DL_c (op_stB _ _ inferInstance rfl rfl rfl rfl (Nat.le_of_ble_eq_true rfl) rfl) ?_
        | refine DL_c (op_stR _ _ inferInstance rfl rfl rfl rfl rfl (by first | exact Nat.le_of_ble_eq_true rfl | (simp; omega)) rfl) ?_
      refine DL_nil (hK9 _ ?_)
      clear hK9; try clear K9
      refine D_ret ?_
      refine ret1 (.inr rfl) rfl (.cellA inferInstance rfl rfl rfl) ?_
      have e : L.take i = L := List.take_of_length_le (by omega)
      refine Le.out [] [] (.agg rfl (lv_cons (lvS ?_ ?_) (lv_cons (lvS ?_ ?_) lv_nil))) rfl rfl rfl trivial trivial
      all_goals rw [e]
end Go.Proofs.Ytphlaojoehmhaaa
