/- The disk's laws by the machine: lives, DiskOps. -/
import Derived.Test.YtphlaojoehmhaaaE12
import Derived.Test.YtphlaojoehmhaaaDLib19
set_option linter.unusedSimpArgs false
set_option linter.unusedVariables false
namespace Go.Proofs.Ytphlaojoehmhaaa
open Go.RowKit

theorem isl_rep {w : World} {n : Nat} {v : Value} {zs : List Int} {ι : Oid → Option Blk} (h : Sl w 1 v n (ints zs)) : Rep ι (fun g => g < w.heap.size) w (.sl n (isl zs)) v := by
  have := h.rd
  rw [show (ints zs).map PV.v = isl zs by simp [ints, isl]] at this
  exact .sl this
theorem isl_n {w : World} {n : Nat} {v : Value} {zs : List Int} (h : Sl w 1 v n (ints zs)) : zs.length = n := by
  have := h.len
  simpa [ints] using this
theorem rng_of (z : List { n : Int // (Lit.int .i64 n).wf = true }) : Rng (z.map (·.1)) := by
  intro x hx
  obtain ⟨y, _, rfl⟩ := List.mem_map.1 hx
  exact fitsI y.2
theorem isl_in {w : World} {n : Nat} {v : Value} {z : List { n : Int // (Lit.int .i64 n).wf = true }} {ι : Oid → Option Blk} (h : Sl w 1 v n (z.map fun y => Value.int .i64 y.1)) : Rep ι (fun g => g < w.heap.size) w (.sl n (isl (z.map (·.1)))) v := by
  have := h.rd
  rw [show (z.map fun y => Value.int .i64 y.1).map PV.v = isl (z.map (·.1)) by simp [isl]] at this
  exact .sl this
theorem bsl_in {w : World} {n : Nat} {v : Value} {z : List Bool} {ι : Oid → Option Blk} (h : Sl w 1 v n (z.map Value.bool)) : Rep ι (fun g => g < w.heap.size) w (.sl n (bsl z)) v := by
  have := h.rd
  rw [show (z.map Value.bool).map PV.v = bsl z by simp [bsl]] at this
  exact .sl this
theorem same_self (n : Nat) (xs : List Int) (hn : xs.length = n) (h1 : n ≤ 4611686018427387904) : Spec Try.prog 13 (inSt [.sl n (isl xs), .sl n (isl xs)] []) (outSt (.v (.bool true)) []) := by
  have := same_spec n n xs xs hn hn h1 h1
  simpa using this
theorem ok3 : Ok 2 [((0 : Int), (5 : Int)), (1, 6), (0, 7)] := by
  intro p hp
  simp at hp
  rcases hp with rfl | rfl | rfl <;> decide

theorem lives_spec : Spec Try.prog 14 (inSt [] []) (outSt (.v (.bool true)) []) := by
  have w1 : Spec Try.prog 12 (inSt [.agg [.sl 2 (isl [0, 0]), .sl 0 (wsl [])], .v (.int .i64 0), .v (.int .i64 5)] []) (outSt (.agg [.sl 2 (isl [0, 0]), .sl 1 (wsl [(0, 5)])]) []) :=
    write_room 2 0 [0, 0] [] rfl rfl (by decide) (by decide) 0 5 (by decide) (by decide)
  have w2 : Spec Try.prog 12 (inSt [.agg [.sl 2 (isl [0, 0]), .sl 1 (wsl [(0, 5)])], .v (.int .i64 1), .v (.int .i64 6)] []) (outSt (.agg [.sl 2 (isl [0, 0]), .sl 2 (wsl [(0, 5), (1, 6)])]) []) :=
    write_room 2 1 [0, 0] [(0, 5)] rfl rfl (by decide) (by decide) 1 6 (by decide) (by decide)
  have w3 : Spec Try.prog 12 (inSt [.agg [.sl 2 (isl [0, 0]), .sl 2 (wsl [(0, 5), (1, 6)])], .v (.int .i64 0), .v (.int .i64 7)] []) (outSt (.agg [.sl 2 (isl [0, 0]), .sl 3 (wsl [(0, 5), (1, 6), (0, 7)])]) []) :=
    write_room 2 2 [0, 0] [(0, 5), (1, 6)] rfl rfl (by decide) (by decide) 0 7 (by decide) (by decide)
  have vw : Spec Try.prog 20 (inSt [.agg [.sl 2 (isl [0, 0]), .sl 3 (wsl [(0, 5), (1, 6), (0, 7)])]] []) (outSt (.sl 2 (isl [7, 6])) []) :=
    view_spec 2 3 [0, 0] [(0, 5), (1, 6), (0, 7)] rfl rfl (by decide) (by decide) ok3
  have cr : Spec Try.prog 24 (inSt [.agg [.sl 2 (isl [0, 0]), .sl 3 (wsl [(0, 5), (1, 6), (0, 7)])], .sl 3 (bsl [true, false, false])] []) (outSt (.agg [.sl 2 (isl [5, 0]), .sl 0 []]) []) :=
    crash_spec 2 3 3 [0, 0] [(0, 5), (1, 6), (0, 7)] [true, false, false] rfl rfl rfl (by decide) (by decide) (by decide) ok3
  refine Spec.ofN Try.func14 rfl Try.ntmps14 rfl ?_
  refine D_seq fun K1 hK1 => ?_
  refine D_region ?_
  refine DL_c (op_as _ (rfl : _ = AV.v (.bool _))) ?_
  refine DL_nil (hK1 _ ?_)
  clear hK1; try clear K1
  refine D_seq fun K2 hK2 => ?_
  refine D_region ?_
  refine DL_c (op_callH inferInstance (by repeat' (first | exact argsLv_nil | refine argsLv_cons ?_ ?_ | exact Lv.v | exact Lv.sl | exact Lv.fp | exact Lv.nil | refine Lv.agg rfl ?_ | exact lv_nil | refine lv_cons ?_ ?_)) (new_spec 2 (by decide)) rfl rfl) ?_
  refine DL_c (op_callH inferInstance (by repeat' (first | exact argsLv_nil | refine argsLv_cons ?_ ?_ | exact Lv.v | exact Lv.sl | exact Lv.fp | exact Lv.nil | refine Lv.agg rfl ?_ | exact lv_nil | refine lv_cons ?_ ?_)) (w1) rfl rfl) ?_
  refine DL_c (op_callH inferInstance (by repeat' (first | exact argsLv_nil | refine argsLv_cons ?_ ?_ | exact Lv.v | exact Lv.sl | exact Lv.fp | exact Lv.nil | refine Lv.agg rfl ?_ | exact lv_nil | refine lv_cons ?_ ?_)) (w2) rfl rfl) ?_
  refine DL_c (op_callH inferInstance (by repeat' (first | exact argsLv_nil | refine argsLv_cons ?_ ?_ | exact Lv.v | exact Lv.sl | exact Lv.fp | exact Lv.nil | refine Lv.agg rfl ?_ | exact lv_nil | refine lv_cons ?_ ?_)) (w3) rfl rfl) ?_
  refine DL_c (op_alloc (1, 0) inferInstance rfl rfl) ?_
  first
    | refine DL_c (op_stB _ _ inferInstance rfl rfl rfl rfl (Nat.le_of_ble_eq_true rfl) rfl) ?_
    | refine DL_c (op_stR _ _ inferInstance rfl rfl rfl rfl rfl (by first | exact Nat.le_of_ble_eq_true rfl | (simp; omega)) rfl) ?_
  refine DL_nil (hK2 _ ?_)
  clear hK2; try clear K2
  refine D_seq fun K3 hK3 => ?_
  refine D_region ?_
  first
    | refine DL_c (op_ldBA _ inferInstance rfl rfl rfl rfl) ?_
    | refine DL_c (op_ldRA _ inferInstance rfl rfl (by first | rfl | assumption) rfl) ?_
    | refine DL_c (op_ldFA _ inferInstance rfl (by first | rfl | assumption) rfl) ?_
  refine DL_c (op_callH inferInstance (by repeat' (first | exact argsLv_nil | refine argsLv_cons ?_ ?_ | exact Lv.v | exact Lv.sl | exact Lv.fp | exact Lv.nil | refine Lv.agg rfl ?_ | exact lv_nil | refine lv_cons ?_ ?_)) (vw) rfl rfl) ?_
  first
    | refine DL_c (op_bsF _ _ inferInstance rfl (by rfl) (by simp <;> rfl) (by decide) rfl) ?_
    | refine DL_c (op_bs (8, 0) _ _ inferInstance rfl (by rfl) (by simp <;> rfl) (by decide) rfl rfl) ?_
  refine DL_c (op_callH inferInstance (by repeat' (first | exact argsLv_nil | refine argsLv_cons ?_ ?_ | exact Lv.v | exact Lv.sl | exact Lv.fp | exact Lv.nil | refine Lv.agg rfl ?_ | exact lv_nil | refine lv_cons ?_ ?_)) (same_self 2 [7, 6] rfl (by decide)) rfl rfl) ?_
  refine DL_c (op_mv _ (rfl : _ = AV.v (.bool _))) ?_
  first
    | refine DL_cy rfl rfl (op_ldBA _ inferInstance rfl rfl rfl rfl) ?_
    | refine DL_cy rfl rfl (op_ldRA _ inferInstance rfl rfl (by first | rfl | assumption) rfl) ?_
    | refine DL_cy rfl rfl (op_ldFA _ inferInstance rfl (by first | rfl | assumption) rfl) ?_
  first
    | refine DL_cy rfl rfl (op_bsF _ _ inferInstance rfl (by rfl) (by simp <;> rfl) (by decide) rfl) ?_
    | refine DL_cy rfl rfl (op_bs (12, 0) _ _ inferInstance rfl (by rfl) (by simp <;> rfl) (by decide) rfl rfl) ?_
  refine DL_cy rfl rfl (op_callH inferInstance (by repeat' (first | exact argsLv_nil | refine argsLv_cons ?_ ?_ | exact Lv.v | exact Lv.sl | exact Lv.fp | exact Lv.nil | refine Lv.agg rfl ?_ | exact lv_nil | refine lv_cons ?_ ?_)) (cr) rfl rfl) ?_
  first
    | refine DL_cy rfl rfl (op_fv1 _ inferInstance rfl (rfl : _ = some (AV.v (.int _ _)))) ?_
    | refine DL_cy rfl rfl (op_fv1 _ inferInstance rfl (rfl : _ = some (AV.v (.bool _)))) ?_
    | refine DL_cy rfl rfl (op_fv1 _ inferInstance rfl (rfl : _ = some (AV.sl _ _))) ?_
    | refine DL_cy rfl rfl (op_fv1 _ inferInstance rfl (rfl : _ = some (AV.ref _ _ _))) ?_
    | refine DL_cy rfl rfl (op_fv1 _ inferInstance rfl (rfl : _ = some (AV.agg _))) ?_
    | refine DL_cy rfl rfl (op_fv1 _ inferInstance rfl (rfl : _ = some (AV.ptr _ _))) ?_
    | refine DL_cy rfl rfl (op_fv1 _ inferInstance rfl (rfl : _ = some (AV.fp _ _))) ?_
    | refine DL_cy rfl rfl (op_fv1 _ inferInstance rfl (rfl : _ = some (AV.v _))) ?_
    | refine DL_cy rfl rfl (op_fv1 _ inferInstance rfl (rfl : _ = some (AV.fn _ _ _))) ?_
    | refine DL_cy rfl rfl (op_fv1 _ inferInstance rfl (rfl : _ = some (AV.tup _))) ?_
    | refine DL_cy rfl rfl (op_fv1 _ inferInstance rfl (rfl : _ = some (AV.ifc _ _))) ?_
    | refine DL_cy rfl rfl (op_fvA _ inferInstance rfl rfl rfl) ?_
  first
    | refine DL_cy rfl rfl (op_bsF _ _ inferInstance rfl (by rfl) (by simp <;> rfl) (by decide) rfl) ?_
    | refine DL_cy rfl rfl (op_bs (15, 0) _ _ inferInstance rfl (by rfl) (by simp <;> rfl) (by decide) rfl rfl) ?_
  refine DL_cy rfl rfl (op_callH inferInstance (by repeat' (first | exact argsLv_nil | refine argsLv_cons ?_ ?_ | exact Lv.v | exact Lv.sl | exact Lv.fp | exact Lv.nil | refine Lv.agg rfl ?_ | exact lv_nil | refine lv_cons ?_ ?_)) (same_self 2 [5, 0] rfl (by decide)) rfl rfl) ?_
  refine DL_c (op_pick _ _ _ rfl (rfl : _ = AV.v (.bool _))) ?_
  refine DL_c (op_as _ (rfl : _ = AV.v (.bool _))) ?_
  refine DL_nil (hK3 _ ?_)
  clear hK3; try clear K3
  refine D_ret ?_
  exact ret1 (.inr rfl) rfl (.tmp (rfl : _ = AV.v (.bool true))) (Le.out [] [] .v rfl rfl rfl trivial trivial)

theorem ops_law (cells : Int) (hc : -9223372036854775808 ≤ cells ∧ cells ≤ 9223372036854775807) (nl : Nat) (ls : List Int) (hn : ls.length = nl) (h1 : nl ≤ 9223372036854775807) (hr : Rng ls) :
    Spec Try.prog 4 (inSt [.v (.int .i64 cells), .sl nl (isl ls)] []) (outSt (.v (.bool true)) []) := by
  have ha0 := around_lo cells 7 (by omega)
  have ha1 := around_hi cells 7 (by omega)
  have har := around_spec cells 7 (by omega) (by omega) hc.1 hc.2
  have hop := ops_spec nl ls hn h1 hr
  have hL : (ls.take 20).length ≤ 20 := by rw [List.length_take]; omega
  generalize ls.take 20 = L at *
  generalize hk : around cells 7 = c at *
  refine Spec.ofN Try.func4 rfl Try.ntmps4 rfl ?_
  refine D_seq fun K1 hK1 => ?_
  refine D_region ?_
  refine DL_c (op_as _ (rfl : _ = AV.v (.bool _))) ?_
  refine DL_nil (hK1 _ ?_)
  clear hK1; try clear K1
  refine D_seq fun K2 hK2 => ?_
  refine D_region ?_
  refine DL_c (op_mv _ (rfl : _ = AV.v (.int _ _))) ?_
  refine DL_c (op_callH inferInstance (by repeat' (first | exact argsLv_nil | refine argsLv_cons ?_ ?_ | exact Lv.v | exact Lv.sl | exact Lv.fp | exact Lv.nil | refine Lv.agg rfl ?_ | exact lv_nil | refine lv_cons ?_ ?_)) (har) rfl rfl) ?_
  refine DL_c (op_as _ (rfl : _ = AV.v (.int _ _))) ?_
  refine DL_nil (hK2 _ ?_)
  clear hK2; try clear K2
  refine D_seq fun K3 hK3 => ?_
  refine D_region ?_
  refine DL_c (op_mv _ (rfl : _ = AV.v (.int _ _))) ?_
  refine DL_c (op_callH inferInstance (by repeat' (first | exact argsLv_nil | refine argsLv_cons ?_ ?_ | exact Lv.v | exact Lv.sl | exact Lv.fp | exact Lv.nil | refine Lv.agg rfl ?_ | exact lv_nil | refine lv_cons ?_ ?_)) (new_int c (by omega) (by omega)) rfl rfl) ?_
  refine DL_c (op_alloc (6, 0) inferInstance rfl rfl) ?_
  first
    | refine DL_c (op_stB _ _ inferInstance rfl rfl rfl rfl (Nat.le_of_ble_eq_true rfl) rfl) ?_
    | refine DL_c (op_stR _ _ inferInstance rfl rfl rfl rfl rfl (by first | exact Nat.le_of_ble_eq_true rfl | (simp; omega)) rfl) ?_
  refine DL_nil (hK3 _ ?_)
  clear hK3; try clear K3
  refine D_seq fun K4 hK4 => ?_
  refine D_region ?_
  refine DL_c (op_mv _ (rfl : _ = AV.v (.int _ _))) ?_
  refine DL_c (op_callH inferInstance (by repeat' (first | exact argsLv_nil | refine argsLv_cons ?_ ?_ | exact Lv.v | exact Lv.sl | exact Lv.fp | exact Lv.nil | refine Lv.agg rfl ?_ | exact lv_nil | refine lv_cons ?_ ?_)) (rnew_int c (by omega) (by omega)) rfl rfl) ?_
  refine DL_c (op_alloc (7, 0) inferInstance rfl rfl) ?_
  first
    | refine DL_c (op_stB _ _ inferInstance rfl rfl rfl rfl (Nat.le_of_ble_eq_true rfl) rfl) ?_
    | refine DL_c (op_stR _ _ inferInstance rfl rfl rfl rfl rfl (by first | exact Nat.le_of_ble_eq_true rfl | (simp; omega)) rfl) ?_
  refine DL_nil (hK4 _ ?_)
  clear hK4; try clear K4
  refine D_seq fun K5 hK5 => ?_
  refine D_region ?_
  first
    | refine DL_c (op_mv _ (rfl : _ = AV.sl _ _)) ?_
    | refine DL_c (op_mv _ (rfl : _ = AV.ref _ _ _)) ?_
    | refine DL_c (op_mv _ (rfl : _ = AV.v (.slice _ _ _))) ?_
  refine DL_c (op_callH inferInstance (by repeat' (first | exact argsLv_nil | refine argsLv_cons ?_ ?_ | exact Lv.v | exact Lv.sl | exact Lv.fp | exact Lv.nil | refine Lv.agg rfl ?_ | exact lv_nil | refine lv_cons ?_ ?_)) (hop) rfl rfl) ?_
  first
    | refine DL_c (op_as _ (rfl : _ = AV.sl _ _)) ?_
    | refine DL_c (op_as _ (rfl : _ = AV.ref _ _ _)) ?_
    | refine DL_c (op_as _ (rfl : _ = AV.v (.slice _ _ _))) ?_
  refine DL_nil (hK5 _ ?_)
  clear hK5; try clear K5
  refine D_seq fun K6 hK6 => ?_
  refine D_seq fun K7 hK7 => ?_
  refine D_region ?_
  refine DL_c (op_as _ (rfl : _ = AV.v (.int _ _))) ?_
  refine DL_nil (hK7 _ ?_)
  clear hK7; try clear K7
  refine D_block ?_
  refine D_loopP (fun i : Nat => i ≤ L.length) (fun i => mkSt 49 [(6, .ptr (6, 0) 0), (7, .ptr (7, 0) 0), (8, .sl L.length (opl L)), (9, .v (.int .i64 (i : Int)))] [((6, 0), .box 26 [.sl (run c.toNat (L.take i)).1.length (isl (run c.toNat (L.take i)).1), .sl (run c.toNat (L.take i)).2.length (wsl (run c.toNat (L.take i)).2)]), ((7, 0), .box 26 [.sl (run c.toNat (L.take i)).1.length (isl (run c.toNat (L.take i)).1), .sl (run c.toNat (L.take i)).2.length (wsl (run c.toNat (L.take i)).2)])]) (fun i => L.length - i) 0 ?_ ?_ ?_
  · omega
  · exact Le.mk [] [] rfl ⟨.ptr, .ptr, .sl, .v, trivial⟩ rfl rfl rfl trivial ⟨⟨rfl, ⟨_, rfl, .box rfl (lv_cons .sl (lv_cons .sl lv_nil))⟩, rfl⟩, ⟨rfl, ⟨_, rfl, .box rfl (lv_cons .sl (lv_cons .sl lv_nil))⟩, rfl⟩, trivial⟩
  · rintro i hi
    refine D_seq fun K8 hK8 => ?_
    refine D_seq fun K9 hK9 => ?_
    refine D_region ?_
    refine DL_c (op_mv _ (rfl : _ = AV.v (.int _ _))) ?_
    first
      | refine DL_c (op_mv _ (rfl : _ = AV.sl _ _)) ?_
      | refine DL_c (op_mv _ (rfl : _ = AV.ref _ _ _)) ?_
      | refine DL_c (op_mv _ (rfl : _ = AV.v (.slice _ _ _))) ?_
    first
      | refine DL_c (op_lenS _ inferInstance rfl) ?_
      | refine DL_c (op_lenR _ inferInstance rfl rfl) ?_
      | refine DL_c (op_lenN _ inferInstance rfl) ?_
    refine DL_c (op_lss _ _ rfl rfl rfl) ?_
    refine DL_nil (hK9 _ ?_)
    clear hK9; try clear K9
    refine D_split rfl (fun hc21 => ?_) (fun hc21 => ?_)
    · try simp only [decide_eq_true_eq, decide_eq_false_iff_not, bne_iff_ne, bne_eq_false_iff_eq, beq_iff_eq, beq_eq_false_iff_ne, Bool.not_eq_true', Bool.not_eq_false', ne_eq, Int.not_lt, Int.not_le] at hc21
      have hiL : i < L.length := by omega
      have hsn := run_snoc c.toNat L i hiL
      have hg := Good.run c.toNat (by omega) (L.take i)
      generalize run c.toNat (L.take i) = s at *
      have hd := do_good s hg (L.getD i 0)
      have hd' := rdo_good s hg (L.getD i 0)
      have hg2 := hg.stp (L.getD i 0)
      generalize stp s (L.getD i 0) = s2 at *
      have hg2n := hg2.n
      have hg2m := hg2.m
      refine D_skip (hK8 _ ?_)
      clear hK8; try clear K8
      refine D_seq fun K10 hK10 => ?_
      refine D_block ?_
      refine D_seq fun K11 hK11 => ?_
      refine D_any 6 [24, 25, 26, 27, 28, 29] [] (by kernel_rfl) (by kernel_rfl) rfl (nodupO_iff rfl) ?_
      first
        | refine any_c (_, none) (fun τ => op_ldBA _ inferInstance rfl rfl rfl rfl) ?_
        | refine any_c (_, none) (fun τ => op_ldRA _ inferInstance rfl rfl (by first | rfl | assumption) rfl) ?_
        | refine any_c (_, none) (fun τ => op_ldFA _ inferInstance rfl (by first | rfl | assumption) rfl) ?_
      first
        | refine any_c (_, none) (fun τ => op_mv _ (rfl : _ = AV.sl _ _)) ?_
        | refine any_c (_, none) (fun τ => op_mv _ (rfl : _ = AV.ref _ _ _)) ?_
        | refine any_c (_, none) (fun τ => op_mv _ (rfl : _ = AV.v (.slice _ _ _))) ?_
      refine any_c (_, none) (fun τ => op_mv _ (rfl : _ = AV.v (.int _ _))) ?_
      first
        | refine any_c (_, none) (fun τ => op_ixS _ _ inferInstance rfl rfl _ rfl (by omega) (by first | assumption | decide | (simp [isl]; omega)) (by first | exact Nat.mul_one _ | rfl)) ?_
        | refine any_c (_, none) (fun τ => op_ixS _ _ inferInstance rfl rfl 0 rfl (by omega) (by first | assumption | decide | (simp [isl]; omega)) (by first | exact Nat.mul_one _ | rfl)) ?_
        | refine any_c (_, none) (fun τ => op_ixS _ _ inferInstance rfl rfl 1 rfl (by omega) (by first | assumption | decide | (simp [isl]; omega)) (by first | exact Nat.mul_one _ | rfl)) ?_
        | refine any_c (_, none) (fun τ => op_ixS _ _ inferInstance rfl rfl (Int.toNat _) (Int.toNat_of_nonneg (by omega)).symm (by omega) (by first | assumption | decide | (simp [isl]; omega)) (by first | exact Nat.mul_one _ | rfl)) ?_
        | refine any_c (_, none) (fun τ => op_ixR _ _ inferInstance rfl rfl rfl _ rfl (by omega) (by first | exact Nat.mul_one _ | rfl)) ?_
        | refine any_c (_, none) (fun τ => op_ixR _ _ inferInstance rfl rfl rfl 0 rfl (by omega) (by first | exact Nat.mul_one _ | rfl)) ?_
        | refine any_c (_, none) (fun τ => op_ixR _ _ inferInstance rfl rfl rfl 1 rfl (by omega) (by first | exact Nat.mul_one _ | rfl)) ?_
        | refine any_c (_, none) (fun τ => op_ixR _ _ inferInstance rfl rfl rfl (Int.toNat _) (Int.toNat_of_nonneg (by omega)).symm (by omega) (by first | exact Nat.mul_one _ | rfl)) ?_
      refine any_c (_, none) (fun τ => op_ldFA _ inferInstance rfl (by exact opl_at _ _ (by omega)) rfl) ?_
      refine any_c (_, none) (fun τ => op_callH inferInstance (by repeat' (first | exact argsLv_nil | refine argsLv_cons ?_ ?_ | exact Lv.v | exact Lv.sl | exact Lv.fp | exact Lv.nil | refine Lv.agg rfl ?_ | exact lv_nil | refine lv_cons ?_ ?_)) (hd) rfl rfl) ?_
      refine any_end ⟨rfl, ?_⟩
      simp only [List.drop_succ_cons, List.drop_zero, List.drop_nil]
      first
        | refine DL_c (op_stB _ _ inferInstance rfl rfl rfl rfl (Nat.le_of_ble_eq_true rfl) rfl) ?_
        | refine DL_c (op_stR _ _ inferInstance rfl rfl rfl rfl rfl (by first | exact Nat.le_of_ble_eq_true rfl | (simp; omega)) rfl) ?_
      refine DL_nil (hK11 _ ?_)
      clear hK11; try clear K11
      refine D_seq fun K12 hK12 => ?_
      refine D_any 6 [30, 31, 32, 33, 34, 35] [] (by kernel_rfl) (by kernel_rfl) rfl (nodupO_iff rfl) ?_
      first
        | refine any_c (_, none) (fun τ => op_ldBA _ inferInstance rfl rfl rfl rfl) ?_
        | refine any_c (_, none) (fun τ => op_ldRA _ inferInstance rfl rfl (by first | rfl | assumption) rfl) ?_
        | refine any_c (_, none) (fun τ => op_ldFA _ inferInstance rfl (by first | rfl | assumption) rfl) ?_
      first
        | refine any_c (_, none) (fun τ => op_mv _ (rfl : _ = AV.sl _ _)) ?_
        | refine any_c (_, none) (fun τ => op_mv _ (rfl : _ = AV.ref _ _ _)) ?_
        | refine any_c (_, none) (fun τ => op_mv _ (rfl : _ = AV.v (.slice _ _ _))) ?_
      refine any_c (_, none) (fun τ => op_mv _ (rfl : _ = AV.v (.int _ _))) ?_
      first
        | refine any_c (_, none) (fun τ => op_ixS _ _ inferInstance rfl rfl _ rfl (by omega) (by first | assumption | decide | (simp [isl]; omega)) (by first | exact Nat.mul_one _ | rfl)) ?_
        | refine any_c (_, none) (fun τ => op_ixS _ _ inferInstance rfl rfl 0 rfl (by omega) (by first | assumption | decide | (simp [isl]; omega)) (by first | exact Nat.mul_one _ | rfl)) ?_
        | refine any_c (_, none) (fun τ => op_ixS _ _ inferInstance rfl rfl 1 rfl (by omega) (by first | assumption | decide | (simp [isl]; omega)) (by first | exact Nat.mul_one _ | rfl)) ?_
        | refine any_c (_, none) (fun τ => op_ixS _ _ inferInstance rfl rfl (Int.toNat _) (Int.toNat_of_nonneg (by omega)).symm (by omega) (by first | assumption | decide | (simp [isl]; omega)) (by first | exact Nat.mul_one _ | rfl)) ?_
        | refine any_c (_, none) (fun τ => op_ixR _ _ inferInstance rfl rfl rfl _ rfl (by omega) (by first | exact Nat.mul_one _ | rfl)) ?_
        | refine any_c (_, none) (fun τ => op_ixR _ _ inferInstance rfl rfl rfl 0 rfl (by omega) (by first | exact Nat.mul_one _ | rfl)) ?_
        | refine any_c (_, none) (fun τ => op_ixR _ _ inferInstance rfl rfl rfl 1 rfl (by omega) (by first | exact Nat.mul_one _ | rfl)) ?_
        | refine any_c (_, none) (fun τ => op_ixR _ _ inferInstance rfl rfl rfl (Int.toNat _) (Int.toNat_of_nonneg (by omega)).symm (by omega) (by first | exact Nat.mul_one _ | rfl)) ?_
      refine any_c (_, none) (fun τ => op_ldFA _ inferInstance rfl (by exact opl_at _ _ (by omega)) rfl) ?_
      refine any_c (_, none) (fun τ => op_callH inferInstance (by repeat' (first | exact argsLv_nil | refine argsLv_cons ?_ ?_ | exact Lv.v | exact Lv.sl | exact Lv.fp | exact Lv.nil | refine Lv.agg rfl ?_ | exact lv_nil | refine lv_cons ?_ ?_)) (hd') rfl rfl) ?_
      refine any_end ⟨rfl, ?_⟩
      simp only [List.drop_succ_cons, List.drop_zero, List.drop_nil]
      first
        | refine DL_c (op_stB _ _ inferInstance rfl rfl rfl rfl (Nat.le_of_ble_eq_true rfl) rfl) ?_
        | refine DL_c (op_stR _ _ inferInstance rfl rfl rfl rfl rfl (by first | exact Nat.le_of_ble_eq_true rfl | (simp; omega)) rfl) ?_
      refine DL_nil (hK12 _ ?_)
      clear hK12; try clear K12
      refine D_seq fun K13 hK13 => ?_
      refine D_any 12 [36, 37, 38, 39, 40, 41, 42, 43, 44, 45, 46, 47] [] (by kernel_rfl) (by kernel_rfl) rfl (nodupO_iff rfl) ?_
      first
        | refine any_c (_, none) (fun τ => op_ldBA _ inferInstance rfl rfl rfl rfl) ?_
        | refine any_c (_, none) (fun τ => op_ldRA _ inferInstance rfl rfl (by first | rfl | assumption) rfl) ?_
        | refine any_c (_, none) (fun τ => op_ldFA _ inferInstance rfl (by first | rfl | assumption) rfl) ?_
      first
        | refine any_c (_, none) (fun τ => op_ldBA _ inferInstance rfl rfl rfl rfl) ?_
        | refine any_c (_, none) (fun τ => op_ldRA _ inferInstance rfl rfl (by first | rfl | assumption) rfl) ?_
        | refine any_c (_, none) (fun τ => op_ldFA _ inferInstance rfl (by first | rfl | assumption) rfl) ?_
      refine any_c (_, none) (fun τ => op_callH inferInstance (by repeat' (first | exact argsLv_nil | refine argsLv_cons ?_ ?_ | exact Lv.v | exact Lv.sl | exact Lv.fp | exact Lv.nil | refine Lv.agg rfl ?_ | exact lv_nil | refine lv_cons ?_ ?_)) (same_yes _ _ s2.1 s2.2 rfl rfl (by omega) (by omega)) rfl rfl) ?_
      refine any_c (_, none) (fun τ => op_not _ rfl (rfl : _ = false)) ?_
      refine any_c (_, none) (fun τ => op_mv _ (rfl : _ = AV.v (.bool _))) ?_
      first
        | refine any_cy (_, none) rfl (fun τ => rfl) (fun τ => op_ldBA _ inferInstance rfl rfl rfl rfl) ?_
        | refine any_cy (_, none) rfl (fun τ => rfl) (fun τ => op_ldRA _ inferInstance rfl rfl (by first | rfl | assumption) rfl) ?_
        | refine any_cy (_, none) rfl (fun τ => rfl) (fun τ => op_ldFA _ inferInstance rfl (by first | rfl | assumption) rfl) ?_
      refine any_cy (_, none) rfl (fun τ => rfl) (fun τ => op_callH inferInstance (by repeat' (first | exact argsLv_nil | refine argsLv_cons ?_ ?_ | exact Lv.v | exact Lv.sl | exact Lv.fp | exact Lv.nil | refine Lv.agg rfl ?_ | exact lv_nil | refine lv_cons ?_ ?_)) (view_spec _ _ s2.1 s2.2 rfl rfl (by omega) (by omega) hg2.ok) rfl rfl) ?_
      first
        | refine any_cy (_, none) rfl (fun τ => rfl) (fun τ => op_ldBA _ inferInstance rfl rfl rfl rfl) ?_
        | refine any_cy (_, none) rfl (fun τ => rfl) (fun τ => op_ldRA _ inferInstance rfl rfl (by first | rfl | assumption) rfl) ?_
        | refine any_cy (_, none) rfl (fun τ => rfl) (fun τ => op_ldFA _ inferInstance rfl (by first | rfl | assumption) rfl) ?_
      refine any_cy (_, none) rfl (fun τ => rfl) (fun τ => op_callH inferInstance (by repeat' (first | exact argsLv_nil | refine argsLv_cons ?_ ?_ | exact Lv.v | exact Lv.sl | exact Lv.fp | exact Lv.nil | refine Lv.agg rfl ?_ | exact lv_nil | refine lv_cons ?_ ?_)) (rview_spec _ _ s2.1 s2.2 rfl rfl (by omega) (by omega) hg2.ok) rfl rfl) ?_
      refine any_cy (_, none) rfl (fun τ => rfl) (fun τ => op_callH inferInstance (by repeat' (first | exact argsLv_nil | refine argsLv_cons ?_ ?_ | exact Lv.v | exact Lv.sl | exact Lv.fp | exact Lv.nil | refine Lv.agg rfl ?_ | exact lv_nil | refine lv_cons ?_ ?_)) (same_self s2.1.length (app s2.1 s2.2) (length_app _ _) (by omega)) rfl rfl) ?_
      refine any_cy (_, none) rfl (fun τ => rfl) (fun τ => op_not _ rfl (rfl : _ = false)) ?_
      refine any_c (_, none) (fun τ => op_pick _ _ _ rfl (rfl : _ = AV.v (.bool _))) ?_
      refine any_end ⟨rfl, ?_⟩
      simp only [List.drop_succ_cons, List.drop_zero, List.drop_nil]
      refine DL_nil (hK13 _ ?_)
      clear hK13; try clear K13
      refine D_cF rfl rfl ?_
      refine D_skip (hK10 _ ?_)
      clear hK10; try clear K10
      refine D_region ?_
      refine DL_c (op_mv _ (rfl : _ = AV.v (.int _ _))) ?_
      first
        | refine DL_c (op_add _ _ rfl rfl (i64w (by omega))) ?_
        | refine DL_c (op_add _ _ rfl rfl rfl) ?_
      refine DL_c (op_as _ (rfl : _ = AV.v (.int _ _))) ?_
      refine DL_nil ?_
      refine ⟨i + 1, by omega, Le.mk [] [] rfl ⟨.ptr, .ptr, .sl, lvI (by omega), trivial⟩ rfl rfl rfl trivial ⟨⟨rfl, ⟨_, rfl, .box rfl (lv_cons (lvS ?_ ?_) (lv_cons (lvS ?_ ?_) lv_nil))⟩, rfl⟩, ⟨rfl, ⟨_, rfl, .box rfl (lv_cons (lvS ?_ ?_) (lv_cons (lvS ?_ ?_) lv_nil))⟩, rfl⟩, trivial⟩, by omega⟩
      all_goals rw [hsn]
    · try simp only [decide_eq_true_eq, decide_eq_false_iff_not, bne_iff_ne, bne_eq_false_iff_eq, beq_iff_eq, beq_eq_false_iff_ne, Bool.not_eq_true', Bool.not_eq_false', ne_eq, Int.not_lt, Int.not_le] at hc21
      refine D_exit ?_
      refine id (hK6 _ ?_)
      clear hK6; try clear K6
      refine D_seq fun K14 hK14 => ?_
      refine D_region ?_
      refine DL_c (op_callH inferInstance (by repeat' (first | exact argsLv_nil | refine argsLv_cons ?_ ?_ | exact Lv.v | exact Lv.sl | exact Lv.fp | exact Lv.nil | refine Lv.agg rfl ?_ | exact lv_nil | refine lv_cons ?_ ?_)) (lives_spec) rfl rfl) ?_
      refine DL_c (op_as _ (rfl : _ = AV.v (.bool _))) ?_
      refine DL_nil (hK14 _ ?_)
      clear hK14; try clear K14
      refine D_ret ?_
      exact ret1 (.inr rfl) rfl (.tmp (rfl : _ = AV.v (.bool true))) (Le.out [] [] .v rfl rfl rfl trivial trivial)
end Go.Proofs.Ytphlaojoehmhaaa
