/- The disk's laws by the machine: DiskCrash. -/
import Derived.Test.YtphlaojoehmhaaaE15
import Derived.Test.YtphlaojoehmhaaaDLib20
set_option linter.unusedSimpArgs false
set_option linter.unusedVariables false
namespace Go.Proofs.Ytphlaojoehmhaaa
open Go.RowKit

theorem kept_all : ∀ (ps : List (Int × Int)) (bs : List Bool), ps.length ≤ bs.length → (∀ b ∈ bs, b = true) → kept ps bs = ps
  | [], _, _, _ => rfl
  | p :: ps, [], h, _ => by simp at h
  | p :: ps, b :: bs, h, hb => by
    have h1 := hb b List.mem_cons_self
    subst h1
    show p :: kept ps bs = p :: ps
    rw [kept_all ps bs (by simpa using h) fun c hc => hb c (List.mem_cons_of_mem _ hc)]
/-- A cell after some writes: as it was, or one of the writes'. -/
theorem app_from (ps : List (Int × Int)) : ∀ (cs : List Int) (i : Nat), i < cs.length → (∀ p ∈ ps, 0 ≤ p.1) → (app cs ps).getD i 0 = cs.getD i 0 ∨ ∃ p ∈ ps, p.1 = (i : Int) ∧ p.2 = (app cs ps).getD i 0 := by
  induction ps with
  | nil => intro cs i _ _; exact .inl rfl
  | cons p ps ih =>
    intro cs i hi h0
    have hw : app cs (p :: ps) = app (wr cs p) ps := rfl
    rw [hw]
    rcases ih (wr cs p) i (by rw [length_wr]; exact hi) (fun q hq => h0 q (List.mem_cons_of_mem _ hq)) with h | ⟨q, h1, h2, h3⟩
    · by_cases hp : p.1.toNat = i
      · refine .inr ⟨p, List.mem_cons_self, ?_, ?_⟩
        · have := h0 p List.mem_cons_self; omega
        · rw [h, wr, hp]; simp [hi]
      · left
        rw [h, wr]
        simp only [List.getD_eq_getElem?_getD]
        rw [List.getElem?_set_ne hp]
    · exact .inr ⟨q, List.mem_cons_of_mem _ h1, h2, h3⟩

/-- What the loop over the pending writes finds. -/
def expl (c0 c1 : Int) (i : Nat) (ps : List (Int × Int)) : Bool := c1 == c0 || ps.any fun p => p.1 == (i : Int) && p.2 == c1
theorem expl_snoc (c0 c1 : Int) (i : Nat) (ps : List (Int × Int)) (k : Nat) (h : k < ps.length) :
    expl c0 c1 i (ps.take (k + 1)) = (expl c0 c1 i (ps.take k) || ((ps.getD k (0, 0)).1 == (i : Int) && (ps.getD k (0, 0)).2 == c1)) := by
  rw [getD_at _ _ _ h, List.take_succ_eq_append_getElem h]
  simp only [expl, List.any_append, List.any_cons, List.any_nil, Bool.or_false, Bool.or_assoc]

theorem three (E : Bool) (p : Prop) : E = true ∨ (E = false ∧ p) ∨ (E = false ∧ ¬ p) := by
  cases E
  · rcases Classical.em p with h | h
    · exact .inr (.inl ⟨rfl, h⟩)
    · exact .inr (.inr ⟨rfl, h⟩)
  · exact .inl rfl
set_option maxHeartbeats 1000000 in
theorem crash_law (cells : Int) (hc : -9223372036854775808 ≤ cells ∧ cells ≤ 9223372036854775807) (nl : Nat) (ls : List Int) (hn : ls.length = nl) (h1 : nl ≤ 9223372036854775807) (hr : Rng ls) (nk : Nat) (ks : List Bool) (hk : ks.length = nk) (h2 : nk ≤ 9223372036854775807) :
    Spec Try.prog 7 (inSt [.v (.int .i64 cells), .sl nl (isl ls), .sl nk (bsl ks)] []) (outSt (.v (.bool true)) []) := by
  have hb := built_spec cells hc nl ls hn h1 hr
  have hg := Good.run (around cells 7).toNat (by have := around_lo cells 7 (by omega); have := around_hi cells 7 (by omega); omega) (ls.take 20)
  generalize run (around cells 7).toNat (ls.take 20) = s at *
  have hgn := hg.n
  have hgm := hg.m
  have hA : (app s.1 s.2).length = s.1.length := length_app _ _
  have hq : (ks.take (min nk 8)).length = min nk 8 := by rw [List.length_take]; omega
  have crA := crash_spec s.1.length s.2.length 5 s.1 s.2 [true, true, true, true, true] rfl rfl rfl (by omega) (by omega) (by omega) hg.ok
  rw [kept_all s.2 _ (by simpa using Nat.le_trans hgm (by decide)) (by simp)] at crA
  have crB := crash_spec s.1.length s.2.length 0 s.1 s.2 [] rfl rfl rfl (by omega) (by omega) (by omega) hg.ok
  rw [kept_nil] at crB
  have crC := crash_spec s.1.length s.2.length (min nk 8) s.1 s.2 (ks.take (min nk 8)) rfl rfl hq (by omega) (by omega) (by omega) hg.ok
  have hC : (app s.1 (kept s.2 (ks.take (min nk 8)))).length = s.1.length := length_app _ _
  have hfrom := fun i hi => app_from (kept s.2 (ks.take (min nk 8))) s.1 i hi (fun p hp => (hg.ok p (kept_sub _ _ p hp)).1)
  have hsub := fun p => kept_sub s.2 (ks.take (min nk 8)) p
  generalize kept s.2 (ks.take (min nk 8)) = kp at *
  generalize app s.1 kp = C at *
  have hall : ∀ i, i < s.1.length → expl (s.1.getD i 0) (C.getD i 0) i s.2 = true := by
    intro i hi
    rcases hfrom i hi with h | ⟨p, h3, h4, h5⟩
    · simp only [expl, h, beq_self_eq_true, Bool.true_or]
    · simp only [expl, Bool.or_eq_true, List.any_eq_true, Bool.and_eq_true, beq_iff_eq]
      exact .inr ⟨p, hsub p h3, h4, h5⟩
  refine Spec.ofN Try.func7 rfl Try.ntmps7 rfl ?_
  refine D_seq fun K1 hK1 => ?_
  refine D_region ?_
  refine DL_c (op_as _ (rfl : _ = AV.v (.bool _))) ?_
  refine DL_nil (hK1 _ ?_)
  clear hK1; try clear K1
  refine D_seq fun K2 hK2 => ?_
  refine D_region ?_
  refine DL_c (op_mv _ (rfl : _ = AV.v (.int _ _))) ?_
  first
    | refine DL_c (op_mv _ (rfl : _ = AV.sl _ _)) ?_
    | refine DL_c (op_mv _ (rfl : _ = AV.ref _ _ _)) ?_
    | refine DL_c (op_mv _ (rfl : _ = AV.v (.slice _ _ _))) ?_
  refine DL_c (op_callH inferInstance (by repeat' (first | exact argsLv_nil | refine argsLv_cons ?_ ?_ | exact Lv.v | exact Lv.sl | exact Lv.fp | exact Lv.nil | refine Lv.agg rfl ?_ | exact lv_nil | refine lv_cons ?_ ?_)) (hb) rfl rfl) ?_
  refine DL_c (op_alloc (7, 0) inferInstance rfl rfl) ?_
  first
    | refine DL_c (op_stB _ _ inferInstance rfl rfl rfl rfl (Nat.le_of_ble_eq_true rfl) rfl) ?_
    | refine DL_c (op_stR _ _ inferInstance rfl rfl rfl rfl rfl (by first | exact Nat.le_of_ble_eq_true rfl | (simp; omega)) rfl) ?_
  refine DL_nil (hK2 _ ?_)
  clear hK2; try clear K2
  refine D_seq fun K3 hK3 => ?_
  refine D_region ?_
  first
    | refine DL_c (op_bsF _ _ inferInstance rfl (by rfl) (by simp <;> rfl) (by decide) rfl) ?_
    | refine DL_c (op_bs (16, 0) _ _ inferInstance rfl (by rfl) (by simp <;> rfl) (by decide) rfl rfl) ?_
  first
    | refine DL_c (op_as _ (rfl : _ = AV.sl _ _)) ?_
    | refine DL_c (op_as _ (rfl : _ = AV.ref _ _ _)) ?_
    | refine DL_c (op_as _ (rfl : _ = AV.v (.slice _ _ _))) ?_
  refine DL_nil (hK3 _ ?_)
  clear hK3; try clear K3
  refine D_seq fun K4 hK4 => ?_
  refine D_seq fun K5 hK5 => ?_
  refine D_anyL 17 [17, 18, 19, 20, 21, 22, 23, 24, 25, 26, 27, 28, 29, 30, 31, 32, 33] [] (by kernel_rfl) (by kernel_rfl) rfl (nodupO_iff rfl) (rfl : _ = [_, _, _, _, _, _, _, _, _, _, _, _, _, _, _, _, _]) (rfl : _ = []) ?_
  first
    | refine any_c (_, none) (fun τ => op_ldBA _ inferInstance rfl rfl rfl rfl) ?_
    | refine any_c (_, none) (fun τ => op_ldRA _ inferInstance rfl rfl (by first | rfl | assumption) rfl) ?_
    | refine any_c (_, none) (fun τ => op_ldFA _ inferInstance rfl (by first | rfl | assumption) rfl) ?_
  refine any_n (rfl : _ = [_]) ?_
  first
    | refine any_c (_, none) (fun τ => op_mv _ (rfl : _ = AV.sl _ _)) ?_
    | refine any_c (_, none) (fun τ => op_mv _ (rfl : _ = AV.ref _ _ _)) ?_
    | refine any_c (_, none) (fun τ => op_mv _ (rfl : _ = AV.v (.slice _ _ _))) ?_
  refine any_n (rfl : _ = [_, _]) ?_
  refine any_c (_, none) (fun τ => op_callH inferInstance (by repeat' (first | exact argsLv_nil | refine argsLv_cons ?_ ?_ | exact Lv.v | exact Lv.sl | exact Lv.fp | exact Lv.nil | refine Lv.agg rfl ?_ | exact lv_nil | refine lv_cons ?_ ?_)) (crA) rfl rfl) ?_
  refine any_n (rfl : _ = [_, _, _]) ?_
  first
    | refine any_c (_, none) (fun τ => op_fv1 _ inferInstance rfl (rfl : _ = some (AV.v (.int _ _)))) ?_
    | refine any_c (_, none) (fun τ => op_fv1 _ inferInstance rfl (rfl : _ = some (AV.v (.bool _)))) ?_
    | refine any_c (_, none) (fun τ => op_fv1 _ inferInstance rfl (rfl : _ = some (AV.sl _ _))) ?_
    | refine any_c (_, none) (fun τ => op_fv1 _ inferInstance rfl (rfl : _ = some (AV.ref _ _ _))) ?_
    | refine any_c (_, none) (fun τ => op_fv1 _ inferInstance rfl (rfl : _ = some (AV.agg _))) ?_
    | refine any_c (_, none) (fun τ => op_fv1 _ inferInstance rfl (rfl : _ = some (AV.ptr _ _))) ?_
    | refine any_c (_, none) (fun τ => op_fv1 _ inferInstance rfl (rfl : _ = some (AV.fp _ _))) ?_
    | refine any_c (_, none) (fun τ => op_fv1 _ inferInstance rfl (rfl : _ = some (AV.v _))) ?_
    | refine any_c (_, none) (fun τ => op_fv1 _ inferInstance rfl (rfl : _ = some (AV.fn _ _ _))) ?_
    | refine any_c (_, none) (fun τ => op_fv1 _ inferInstance rfl (rfl : _ = some (AV.tup _))) ?_
    | refine any_c (_, none) (fun τ => op_fv1 _ inferInstance rfl (rfl : _ = some (AV.ifc _ _))) ?_
    | refine any_c (_, none) (fun τ => op_fvA _ inferInstance rfl rfl rfl) ?_
  refine any_n (rfl : _ = [_, _, _, _]) ?_
  first
    | refine any_c (_, none) (fun τ => op_ldBA _ inferInstance rfl rfl rfl rfl) ?_
    | refine any_c (_, none) (fun τ => op_ldRA _ inferInstance rfl rfl (by first | rfl | assumption) rfl) ?_
    | refine any_c (_, none) (fun τ => op_ldFA _ inferInstance rfl (by first | rfl | assumption) rfl) ?_
  refine any_n (rfl : _ = [_, _, _, _, _]) ?_
  refine any_c (_, none) (fun τ => op_callH inferInstance (by repeat' (first | exact argsLv_nil | refine argsLv_cons ?_ ?_ | exact Lv.v | exact Lv.sl | exact Lv.fp | exact Lv.nil | refine Lv.agg rfl ?_ | exact lv_nil | refine lv_cons ?_ ?_)) (view_spec _ _ s.1 s.2 rfl rfl (by omega) (by omega) hg.ok) rfl rfl) ?_
  refine any_n (rfl : _ = [_, _, _, _, _, _]) ?_
  refine any_c (_, none) (fun τ => op_callH inferInstance (by repeat' (first | exact argsLv_nil | refine argsLv_cons ?_ ?_ | exact Lv.v | exact Lv.sl | exact Lv.fp | exact Lv.nil | refine Lv.agg rfl ?_ | exact lv_nil | refine lv_cons ?_ ?_)) (same_self s.1.length (app s.1 s.2) hA (by omega)) rfl rfl) ?_
  refine any_n (rfl : _ = [_, _, _, _, _, _, _]) ?_
  refine any_c (_, none) (fun τ => op_not _ rfl (rfl : _ = false)) ?_
  refine any_n (rfl : _ = [_, _, _, _, _, _, _, _]) ?_
  refine any_c (_, none) (fun τ => op_mv _ (rfl : _ = AV.v (.bool _))) ?_
  refine any_n (rfl : _ = [_, _, _, _, _, _, _, _, _]) ?_
  first
    | refine any_cy (_, none) rfl (fun τ => rfl) (fun τ => op_ldBA _ inferInstance rfl rfl rfl rfl) ?_
    | refine any_cy (_, none) rfl (fun τ => rfl) (fun τ => op_ldRA _ inferInstance rfl rfl (by first | rfl | assumption) rfl) ?_
    | refine any_cy (_, none) rfl (fun τ => rfl) (fun τ => op_ldFA _ inferInstance rfl (by first | rfl | assumption) rfl) ?_
  refine any_n (rfl : _ = [_, _, _, _, _, _, _, _, _, _]) ?_
  refine any_cy (_, none) rfl (fun τ => rfl) (fun τ => op_callH inferInstance (by repeat' (first | exact argsLv_nil | refine argsLv_cons ?_ ?_ | exact Lv.v | exact Lv.sl | exact Lv.fp | exact Lv.nil | refine Lv.agg rfl ?_ | exact lv_nil | refine lv_cons ?_ ?_)) (crB) rfl rfl) ?_
  refine any_n (rfl : _ = [_, _, _, _, _, _, _, _, _, _, _]) ?_
  first
    | refine any_cy (_, none) rfl (fun τ => rfl) (fun τ => op_fv1 _ inferInstance rfl (rfl : _ = some (AV.v (.int _ _)))) ?_
    | refine any_cy (_, none) rfl (fun τ => rfl) (fun τ => op_fv1 _ inferInstance rfl (rfl : _ = some (AV.v (.bool _)))) ?_
    | refine any_cy (_, none) rfl (fun τ => rfl) (fun τ => op_fv1 _ inferInstance rfl (rfl : _ = some (AV.sl _ _))) ?_
    | refine any_cy (_, none) rfl (fun τ => rfl) (fun τ => op_fv1 _ inferInstance rfl (rfl : _ = some (AV.ref _ _ _))) ?_
    | refine any_cy (_, none) rfl (fun τ => rfl) (fun τ => op_fv1 _ inferInstance rfl (rfl : _ = some (AV.agg _))) ?_
    | refine any_cy (_, none) rfl (fun τ => rfl) (fun τ => op_fv1 _ inferInstance rfl (rfl : _ = some (AV.ptr _ _))) ?_
    | refine any_cy (_, none) rfl (fun τ => rfl) (fun τ => op_fv1 _ inferInstance rfl (rfl : _ = some (AV.fp _ _))) ?_
    | refine any_cy (_, none) rfl (fun τ => rfl) (fun τ => op_fv1 _ inferInstance rfl (rfl : _ = some (AV.v _))) ?_
    | refine any_cy (_, none) rfl (fun τ => rfl) (fun τ => op_fv1 _ inferInstance rfl (rfl : _ = some (AV.fn _ _ _))) ?_
    | refine any_cy (_, none) rfl (fun τ => rfl) (fun τ => op_fv1 _ inferInstance rfl (rfl : _ = some (AV.tup _))) ?_
    | refine any_cy (_, none) rfl (fun τ => rfl) (fun τ => op_fv1 _ inferInstance rfl (rfl : _ = some (AV.ifc _ _))) ?_
    | refine any_cy (_, none) rfl (fun τ => rfl) (fun τ => op_fvA _ inferInstance rfl rfl rfl) ?_
  refine any_n (rfl : _ = [_, _, _, _, _, _, _, _, _, _, _, _]) ?_
  first
    | refine any_cy (_, none) rfl (fun τ => rfl) (fun τ => op_fldP _ inferInstance rfl rfl rfl) ?_
    | refine any_cy (_, none) rfl (fun τ => rfl) (fun τ => op_fldF _ inferInstance rfl rfl) ?_
  refine any_n (rfl : _ = [_, _, _, _, _, _, _, _, _, _, _, _, _]) ?_
  first
    | refine any_cy (_, none) rfl (fun τ => rfl) (fun τ => op_ldB _ inferInstance rfl rfl (rfl : _ = some (AV.sl _ _))) ?_
    | refine any_cy (_, none) rfl (fun τ => rfl) (fun τ => op_ldB _ inferInstance rfl rfl (rfl : _ = some (AV.ref _ _ _))) ?_
    | refine any_cy (_, none) rfl (fun τ => rfl) (fun τ => op_ldB _ inferInstance rfl rfl (rfl : _ = some (AV.v (.slice _ _ _)))) ?_
    | refine any_cy (_, none) rfl (fun τ => rfl) (fun τ => op_ldR _ inferInstance rfl rfl (by first | rfl | exact isl_get _ _ (by omega) | exact bsl_get _ _ (by omega) | exact wsl_get0 _ _ (by omega) | exact wsl_get1 _ _ (by omega) | assumption) rfl) ?_
    | refine any_cy (_, none) rfl (fun τ => rfl) (fun τ => op_ldF _ inferInstance rfl (by first | rfl | exact isl_get _ _ (by omega) | exact bsl_get _ _ (by omega) | exact wsl_get0 _ _ (by omega) | exact wsl_get1 _ _ (by omega) | assumption) rfl) ?_
  refine any_n (rfl : _ = [_, _, _, _, _, _, _, _, _, _, _, _, _, _]) ?_
  refine any_cy (_, none) rfl (fun τ => rfl) (fun τ => op_callH inferInstance (by repeat' (first | exact argsLv_nil | refine argsLv_cons ?_ ?_ | exact Lv.v | exact Lv.sl | exact Lv.fp | exact Lv.nil | refine Lv.agg rfl ?_ | exact lv_nil | refine lv_cons ?_ ?_)) (same_self s.1.length s.1 rfl (by omega)) rfl rfl) ?_
  refine any_n (rfl : _ = [_, _, _, _, _, _, _, _, _, _, _, _, _, _, _]) ?_
  refine any_cy (_, none) rfl (fun τ => rfl) (fun τ => op_not _ rfl (rfl : _ = false)) ?_
  refine any_n (rfl : _ = [_, _, _, _, _, _, _, _, _, _, _, _, _, _, _, _]) ?_
  refine any_c (_, none) (fun τ => op_pick _ _ _ rfl (rfl : _ = AV.v (.bool _))) ?_
  refine any_n (rfl : _ = [_, _, _, _, _, _, _, _, _, _, _, _, _, _, _, _, _]) ?_
  refine any_end ⟨rfl, ?_⟩
  refine DL_nil (hK5 _ ?_)
  clear hK5; try clear K5
  refine D_cF rfl rfl ?_
  refine D_skip (hK4 _ ?_)
  clear hK4; try clear K4
  refine D_seq fun K6 hK6 => ?_
  refine D_anyL 10 [34, 35, 36, 37, 38, 39, 40, 41, 42, 9] [(9, 0)] (by kernel_rfl) (by kernel_rfl) rfl (nodupO_iff rfl) (rfl : _ = [_, _, _, _, _, _, _, _, _, _]) (rfl : _ = [_]) ?_
  first
    | refine any_c (_, none) (fun τ => op_ldBA _ inferInstance rfl rfl rfl rfl) ?_
    | refine any_c (_, none) (fun τ => op_ldRA _ inferInstance rfl rfl (by first | rfl | assumption) rfl) ?_
    | refine any_c (_, none) (fun τ => op_ldFA _ inferInstance rfl (by first | rfl | assumption) rfl) ?_
  refine any_n (rfl : _ = [_]) ?_
  refine any_c (_, none) (fun τ => op_bsZ _ inferInstance rfl) ?_
  refine any_n (rfl : _ = [_, _]) ?_
  first
    | refine any_c (_, none) (fun τ => op_mv _ (rfl : _ = AV.sl _ _)) ?_
    | refine any_c (_, none) (fun τ => op_mv _ (rfl : _ = AV.ref _ _ _)) ?_
    | refine any_c (_, none) (fun τ => op_mv _ (rfl : _ = AV.v (.slice _ _ _))) ?_
  refine any_n (rfl : _ = [_, _, _]) ?_
  first
    | refine any_c (_, none) (fun τ => op_mv _ (rfl : _ = AV.sl _ _)) ?_
    | refine any_c (_, none) (fun τ => op_mv _ (rfl : _ = AV.ref _ _ _)) ?_
    | refine any_c (_, none) (fun τ => op_mv _ (rfl : _ = AV.v (.slice _ _ _))) ?_
  refine any_n (rfl : _ = [_, _, _, _]) ?_
  first
    | refine any_c (_, none) (fun τ => op_lenS _ inferInstance rfl) ?_
    | refine any_c (_, none) (fun τ => op_lenR _ inferInstance rfl rfl) ?_
    | refine any_c (_, none) (fun τ => op_lenN _ inferInstance rfl) ?_
  refine any_n (rfl : _ = [_, _, _, _, _]) ?_
  refine any_c (_, none) (fun τ => op_min _ _ rfl rfl (by omega : min (nk : Int) 8 = ((min nk 8 : Nat) : Int))) ?_
  refine any_n (rfl : _ = [_, _, _, _, _, _]) ?_
  refine any_c (_, none) (fun τ => op_slS _ _ _ inferInstance rfl 0 (min nk 8) .dflt (.lit rfl rfl) (by omega) (by omega) (by rw [Nat.zero_mul, List.drop_zero, Nat.sub_zero, Nat.mul_one, bsl_take] : _ = bsl (ks.take (min nk 8))) (Nat.sub_zero _)) ?_
  refine any_n (rfl : _ = [_, _, _, _, _, _, _]) ?_
  refine any_c (_, none) (fun τ => op_apZ _ _ inferInstance rfl (.sl (m := min nk 8) (by simp [hq])) (by omega)) ?_
  refine any_n (rfl : _ = [_, _, _, _, _, _, _, _]) ?_
  refine any_c (_, none) (fun τ => op_callH inferInstance (by repeat' (first | exact argsLv_nil | refine argsLv_cons ?_ ?_ | exact Lv.v | exact Lv.sl | exact Lv.fp | exact Lv.nil | refine Lv.agg rfl ?_ | exact lv_nil | refine lv_cons ?_ ?_)) (crC) rfl rfl) ?_
  refine any_n (rfl : _ = [_, _, _, _, _, _, _, _, _]) ?_
  refine any_c (_, some ((9, 0), _)) (fun τ => op_alloc (9, 0) inferInstance rfl rfl) ?_
  refine any_n (rfl : _ = [_, _, _, _, _, _, _, _, _, _]) ?_
  refine any_end ⟨rfl, ?_⟩
  first
    | refine DL_c (op_stB _ _ inferInstance rfl rfl rfl rfl (Nat.le_of_ble_eq_true rfl) rfl) ?_
    | refine DL_c (op_stR _ _ inferInstance rfl rfl rfl rfl rfl (by first | exact Nat.le_of_ble_eq_true rfl | (simp; omega)) rfl) ?_
  refine DL_nil (hK6 _ ?_)
  clear hK6; try clear K6
  refine D_seq fun K7 hK7 => ?_
  refine D_seq fun K8 hK8 => ?_
  refine D_region ?_
  first
    | refine DL_c (op_fldP _ inferInstance rfl rfl rfl) ?_
    | refine DL_c (op_fldF _ inferInstance rfl rfl) ?_
  first
    | refine DL_c (op_ldB _ inferInstance rfl rfl (rfl : _ = some (AV.sl _ _))) ?_
    | refine DL_c (op_ldB _ inferInstance rfl rfl (rfl : _ = some (AV.ref _ _ _))) ?_
    | refine DL_c (op_ldB _ inferInstance rfl rfl (rfl : _ = some (AV.v (.slice _ _ _)))) ?_
    | refine DL_c (op_ldR _ inferInstance rfl rfl (by first | rfl | exact isl_get _ _ (by omega) | exact bsl_get _ _ (by omega) | exact wsl_get0 _ _ (by omega) | exact wsl_get1 _ _ (by omega) | assumption) rfl) ?_
    | refine DL_c (op_ldF _ inferInstance rfl (by first | rfl | exact isl_get _ _ (by omega) | exact bsl_get _ _ (by omega) | exact wsl_get0 _ _ (by omega) | exact wsl_get1 _ _ (by omega) | assumption) rfl) ?_
  first
    | refine DL_c (op_lenS _ inferInstance rfl) ?_
    | refine DL_c (op_lenR _ inferInstance rfl rfl) ?_
    | refine DL_c (op_lenN _ inferInstance rfl) ?_
  refine DL_c (op_neq (r := false) _ _ rfl rfl rfl) ?_
  refine DL_c (op_mv _ (rfl : _ = AV.v (.bool _))) ?_
  first
    | refine DL_cy rfl rfl (op_fldP _ inferInstance rfl rfl rfl) ?_
    | refine DL_cy rfl rfl (op_fldF _ inferInstance rfl rfl) ?_
  first
    | refine DL_cy rfl rfl (op_ldB _ inferInstance rfl rfl (rfl : _ = some (AV.sl _ _))) ?_
    | refine DL_cy rfl rfl (op_ldB _ inferInstance rfl rfl (rfl : _ = some (AV.ref _ _ _))) ?_
    | refine DL_cy rfl rfl (op_ldB _ inferInstance rfl rfl (rfl : _ = some (AV.v (.slice _ _ _)))) ?_
    | refine DL_cy rfl rfl (op_ldR _ inferInstance rfl rfl (by first | rfl | exact isl_get _ _ (by omega) | exact bsl_get _ _ (by omega) | exact wsl_get0 _ _ (by omega) | exact wsl_get1 _ _ (by omega) | assumption) rfl) ?_
    | refine DL_cy rfl rfl (op_ldF _ inferInstance rfl (by first | rfl | exact isl_get _ _ (by omega) | exact bsl_get _ _ (by omega) | exact wsl_get0 _ _ (by omega) | exact wsl_get1 _ _ (by omega) | assumption) rfl) ?_
  first
    | refine DL_cy rfl rfl (op_lenS _ inferInstance rfl) ?_
    | refine DL_cy rfl rfl (op_lenR _ inferInstance rfl rfl) ?_
    | refine DL_cy rfl rfl (op_lenN _ inferInstance rfl) ?_
  first
    | refine DL_cy rfl rfl (op_fldP _ inferInstance rfl rfl rfl) ?_
    | refine DL_cy rfl rfl (op_fldF _ inferInstance rfl rfl) ?_
  first
    | refine DL_cy rfl rfl (op_ldB _ inferInstance rfl rfl (rfl : _ = some (AV.sl _ _))) ?_
    | refine DL_cy rfl rfl (op_ldB _ inferInstance rfl rfl (rfl : _ = some (AV.ref _ _ _))) ?_
    | refine DL_cy rfl rfl (op_ldB _ inferInstance rfl rfl (rfl : _ = some (AV.v (.slice _ _ _)))) ?_
    | refine DL_cy rfl rfl (op_ldR _ inferInstance rfl rfl (by first | rfl | exact isl_get _ _ (by omega) | exact bsl_get _ _ (by omega) | exact wsl_get0 _ _ (by omega) | exact wsl_get1 _ _ (by omega) | assumption) rfl) ?_
    | refine DL_cy rfl rfl (op_ldF _ inferInstance rfl (by first | rfl | exact isl_get _ _ (by omega) | exact bsl_get _ _ (by omega) | exact wsl_get0 _ _ (by omega) | exact wsl_get1 _ _ (by omega) | assumption) rfl) ?_
  first
    | refine DL_cy rfl rfl (op_lenS _ inferInstance rfl) ?_
    | refine DL_cy rfl rfl (op_lenR _ inferInstance rfl rfl) ?_
    | refine DL_cy rfl rfl (op_lenN _ inferInstance rfl) ?_
  refine DL_cy rfl rfl (op_neq _ _ rfl rfl (bne_self_eq_false _)) ?_
  refine DL_c (op_pick _ _ _ rfl (rfl : _ = AV.v (.bool _))) ?_
  refine DL_nil (hK8 _ ?_)
  clear hK8; try clear K8
  refine D_cF rfl rfl ?_
  refine D_skip (hK7 _ ?_)
  clear hK7; try clear K7
  refine D_seq fun K9 hK9 => ?_
  refine D_seq fun K10 hK10 => ?_
  refine D_region ?_
  refine DL_c (op_as _ (rfl : _ = AV.v (.int _ _))) ?_
  refine DL_nil (hK10 _ ?_)
  clear hK10; try clear K10
  refine D_block ?_
  refine D_loopP (fun i : Nat => i ≤ s.1.length) (fun i => mkSt 109 [(7, .ptr (7, 0) 0), (9, .ptr (9, 0) 0), (10, .v (.int .i64 (i : Int)))] [((7, 0), .box 26 [.sl (s).1.length (isl (s).1), .sl (s).2.length (wsl (s).2)]), ((9, 0), .box 26 [.sl s.1.length (isl C), .sl 0 []])]) (fun i => s.1.length - i) 0 ?_ ?_ ?_
  · omega
  · exact Le.mk [] [] rfl ⟨.ptr, .ptr, .v, trivial⟩ rfl rfl rfl trivial ⟨⟨rfl, ⟨_, rfl, .box rfl (lv_cons .sl (lv_cons .sl lv_nil))⟩, rfl⟩, ⟨rfl, ⟨_, rfl, .box rfl (lv_cons .sl (lv_cons .sl lv_nil))⟩, rfl⟩, trivial⟩
  · rintro i hi
    refine D_seq fun K11 hK11 => ?_
    refine D_seq fun K12 hK12 => ?_
    refine D_region ?_
    refine DL_c (op_mv _ (rfl : _ = AV.v (.int _ _))) ?_
    first
      | refine DL_c (op_fldP _ inferInstance rfl rfl rfl) ?_
      | refine DL_c (op_fldF _ inferInstance rfl rfl) ?_
    first
      | refine DL_c (op_ldB _ inferInstance rfl rfl (rfl : _ = some (AV.sl _ _))) ?_
      | refine DL_c (op_ldB _ inferInstance rfl rfl (rfl : _ = some (AV.ref _ _ _))) ?_
      | refine DL_c (op_ldB _ inferInstance rfl rfl (rfl : _ = some (AV.v (.slice _ _ _)))) ?_
      | refine DL_c (op_ldR _ inferInstance rfl rfl (by first | rfl | exact isl_get _ _ (by omega) | exact bsl_get _ _ (by omega) | exact wsl_get0 _ _ (by omega) | exact wsl_get1 _ _ (by omega) | assumption) rfl) ?_
      | refine DL_c (op_ldF _ inferInstance rfl (by first | rfl | exact isl_get _ _ (by omega) | exact bsl_get _ _ (by omega) | exact wsl_get0 _ _ (by omega) | exact wsl_get1 _ _ (by omega) | assumption) rfl) ?_
    first
      | refine DL_c (op_lenS _ inferInstance rfl) ?_
      | refine DL_c (op_lenR _ inferInstance rfl rfl) ?_
      | refine DL_c (op_lenN _ inferInstance rfl) ?_
    refine DL_c (op_lss _ _ rfl rfl rfl) ?_
    refine DL_nil (hK12 _ ?_)
    clear hK12; try clear K12
    refine D_split rfl (fun hc60 => ?_) (fun hc60 => ?_)
    · try simp only [decide_eq_true_eq, decide_eq_false_iff_not, bne_iff_ne, bne_eq_false_iff_eq, beq_iff_eq, beq_eq_false_iff_ne, Bool.not_eq_true', Bool.not_eq_false', ne_eq, Int.not_lt, Int.not_le] at hc60
      have hex := hall i (by omega)
      refine D_skip (hK11 _ ?_)
      clear hK11; try clear K11
      refine D_seq fun K13 hK13 => ?_
      refine D_block ?_
      refine D_seq fun K14 hK14 => ?_
      refine D_anyL 11 [63, 64, 65, 66, 67, 68, 69, 70, 71, 72, 73] [] (by kernel_rfl) (by kernel_rfl) rfl (nodupO_iff rfl) (rfl : _ = [_, _, _, _, _, _, _, _, _, _, _]) (rfl : _ = [_]) ?_
      first
        | refine any_c (_, none) (fun τ => op_fldP _ inferInstance rfl rfl rfl) ?_
        | refine any_c (_, none) (fun τ => op_fldF _ inferInstance rfl rfl) ?_
      refine any_n (rfl : _ = [_]) ?_
      first
        | refine any_c (_, none) (fun τ => op_ldB _ inferInstance rfl rfl (rfl : _ = some (AV.sl _ _))) ?_
        | refine any_c (_, none) (fun τ => op_ldB _ inferInstance rfl rfl (rfl : _ = some (AV.ref _ _ _))) ?_
        | refine any_c (_, none) (fun τ => op_ldB _ inferInstance rfl rfl (rfl : _ = some (AV.v (.slice _ _ _)))) ?_
        | refine any_c (_, none) (fun τ => op_ldR _ inferInstance rfl rfl (by first | rfl | exact isl_get _ _ (by omega) | exact bsl_get _ _ (by omega) | exact wsl_get0 _ _ (by omega) | exact wsl_get1 _ _ (by omega) | assumption) rfl) ?_
        | refine any_c (_, none) (fun τ => op_ldF _ inferInstance rfl (by first | rfl | exact isl_get _ _ (by omega) | exact bsl_get _ _ (by omega) | exact wsl_get0 _ _ (by omega) | exact wsl_get1 _ _ (by omega) | assumption) rfl) ?_
      refine any_n (rfl : _ = [_, _]) ?_
      refine any_c (_, none) (fun τ => op_mv _ (rfl : _ = AV.v (.int _ _))) ?_
      refine any_n (rfl : _ = [_, _, _]) ?_
      first
        | refine any_c (_, none) (fun τ => op_ixS _ _ inferInstance rfl rfl _ rfl (by omega) (by first | assumption | decide | (simp [isl]; omega)) (by first | exact Nat.mul_one _ | rfl)) ?_
        | refine any_c (_, none) (fun τ => op_ixS _ _ inferInstance rfl rfl 0 rfl (by omega) (by first | assumption | decide | (simp [isl]; omega)) (by first | exact Nat.mul_one _ | rfl)) ?_
        | refine any_c (_, none) (fun τ => op_ixS _ _ inferInstance rfl rfl 1 rfl (by omega) (by first | assumption | decide | (simp [isl]; omega)) (by first | exact Nat.mul_one _ | rfl)) ?_
        | refine any_c (_, none) (fun τ => op_ixS _ _ inferInstance rfl rfl (Int.toNat _) (Int.toNat_of_nonneg (by omega)).symm (by omega) (by first | assumption | decide | (simp [isl]; omega)) (by first | exact Nat.mul_one _ | rfl)) ?_
        | refine any_c (_, none) (fun τ => op_ixR _ _ inferInstance rfl rfl rfl _ rfl (by omega) (by first | exact Nat.mul_one _ | rfl)) ?_
        | refine any_c (_, none) (fun τ => op_ixR _ _ inferInstance rfl rfl rfl 0 rfl (by omega) (by first | exact Nat.mul_one _ | rfl)) ?_
        | refine any_c (_, none) (fun τ => op_ixR _ _ inferInstance rfl rfl rfl 1 rfl (by omega) (by first | exact Nat.mul_one _ | rfl)) ?_
        | refine any_c (_, none) (fun τ => op_ixR _ _ inferInstance rfl rfl rfl (Int.toNat _) (Int.toNat_of_nonneg (by omega)).symm (by omega) (by first | exact Nat.mul_one _ | rfl)) ?_
      refine any_n (rfl : _ = [_, _, _, _]) ?_
      refine any_c (_, none) (fun τ => op_ldF _ inferInstance rfl (by exact isl_get _ _ (by omega)) rfl) ?_
      refine any_n (rfl : _ = [_, _, _, _, _]) ?_
      first
        | refine any_c (_, none) (fun τ => op_fldP _ inferInstance rfl rfl rfl) ?_
        | refine any_c (_, none) (fun τ => op_fldF _ inferInstance rfl rfl) ?_
      refine any_n (rfl : _ = [_, _, _, _, _, _]) ?_
      first
        | refine any_c (_, none) (fun τ => op_ldB _ inferInstance rfl rfl (rfl : _ = some (AV.sl _ _))) ?_
        | refine any_c (_, none) (fun τ => op_ldB _ inferInstance rfl rfl (rfl : _ = some (AV.ref _ _ _))) ?_
        | refine any_c (_, none) (fun τ => op_ldB _ inferInstance rfl rfl (rfl : _ = some (AV.v (.slice _ _ _)))) ?_
        | refine any_c (_, none) (fun τ => op_ldR _ inferInstance rfl rfl (by first | rfl | exact isl_get _ _ (by omega) | exact bsl_get _ _ (by omega) | exact wsl_get0 _ _ (by omega) | exact wsl_get1 _ _ (by omega) | assumption) rfl) ?_
        | refine any_c (_, none) (fun τ => op_ldF _ inferInstance rfl (by first | rfl | exact isl_get _ _ (by omega) | exact bsl_get _ _ (by omega) | exact wsl_get0 _ _ (by omega) | exact wsl_get1 _ _ (by omega) | assumption) rfl) ?_
      refine any_n (rfl : _ = [_, _, _, _, _, _, _]) ?_
      refine any_c (_, none) (fun τ => op_mv _ (rfl : _ = AV.v (.int _ _))) ?_
      refine any_n (rfl : _ = [_, _, _, _, _, _, _, _]) ?_
      first
        | refine any_c (_, none) (fun τ => op_ixS _ _ inferInstance rfl rfl _ rfl (by omega) (by first | assumption | decide | (simp [isl]; omega)) (by first | exact Nat.mul_one _ | rfl)) ?_
        | refine any_c (_, none) (fun τ => op_ixS _ _ inferInstance rfl rfl 0 rfl (by omega) (by first | assumption | decide | (simp [isl]; omega)) (by first | exact Nat.mul_one _ | rfl)) ?_
        | refine any_c (_, none) (fun τ => op_ixS _ _ inferInstance rfl rfl 1 rfl (by omega) (by first | assumption | decide | (simp [isl]; omega)) (by first | exact Nat.mul_one _ | rfl)) ?_
        | refine any_c (_, none) (fun τ => op_ixS _ _ inferInstance rfl rfl (Int.toNat _) (Int.toNat_of_nonneg (by omega)).symm (by omega) (by first | assumption | decide | (simp [isl]; omega)) (by first | exact Nat.mul_one _ | rfl)) ?_
        | refine any_c (_, none) (fun τ => op_ixR _ _ inferInstance rfl rfl rfl _ rfl (by omega) (by first | exact Nat.mul_one _ | rfl)) ?_
        | refine any_c (_, none) (fun τ => op_ixR _ _ inferInstance rfl rfl rfl 0 rfl (by omega) (by first | exact Nat.mul_one _ | rfl)) ?_
        | refine any_c (_, none) (fun τ => op_ixR _ _ inferInstance rfl rfl rfl 1 rfl (by omega) (by first | exact Nat.mul_one _ | rfl)) ?_
        | refine any_c (_, none) (fun τ => op_ixR _ _ inferInstance rfl rfl rfl (Int.toNat _) (Int.toNat_of_nonneg (by omega)).symm (by omega) (by first | exact Nat.mul_one _ | rfl)) ?_
      refine any_n (rfl : _ = [_, _, _, _, _, _, _, _, _]) ?_
      refine any_c (_, none) (fun τ => op_ldF _ inferInstance rfl (by exact isl_get _ _ (by omega)) rfl) ?_
      refine any_n (rfl : _ = [_, _, _, _, _, _, _, _, _, _]) ?_
      refine any_c (_, none) (fun τ => op_eql _ _ rfl rfl rfl) ?_
      refine any_n (rfl : _ = [_, _, _, _, _, _, _, _, _, _, _]) ?_
      refine any_end ⟨rfl, ?_⟩
      refine DL_c (op_as _ (rfl : _ = AV.v (.bool _))) ?_
      refine DL_nil (hK14 _ ?_)
      clear hK14; try clear K14
      refine D_seq fun K15 hK15 => ?_
      refine D_seq fun K16 hK16 => ?_
      refine D_region ?_
      refine DL_c (op_as _ (rfl : _ = AV.v (.int _ _))) ?_
      refine DL_nil (hK16 _ ?_)
      clear hK16; try clear K16
      refine D_block ?_
      refine D_loopP (fun k : Nat => k ≤ s.2.length) (fun k => mkSt 109 [(7, .ptr (7, 0) 0), (9, .ptr (9, 0) 0), (10, .v (.int .i64 (i : Int))), (11, .v (.bool (expl (s.1.getD i 0) (C.getD i 0) i (s.2.take k)))), (12, .v (.int .i64 (k : Int)))] [((7, 0), .box 26 [.sl (s).1.length (isl (s).1), .sl (s).2.length (wsl (s).2)]), ((9, 0), .box 26 [.sl s.1.length (isl C), .sl 0 []])]) (fun k => s.2.length - k) 0 ?_ ?_ ?_
      · omega
      · exact Le.mk [] [] rfl ⟨.ptr, .ptr, .v, lvB (by simp [expl]), .v, trivial⟩ rfl rfl rfl trivial ⟨⟨rfl, ⟨_, rfl, .box rfl (lv_cons .sl (lv_cons .sl lv_nil))⟩, rfl⟩, ⟨rfl, ⟨_, rfl, .box rfl (lv_cons .sl (lv_cons .sl lv_nil))⟩, rfl⟩, trivial⟩
      · rintro k hk
        refine D_seq fun K17 hK17 => ?_
        refine D_seq fun K18 hK18 => ?_
        refine D_region ?_
        refine DL_c (op_mv _ (rfl : _ = AV.v (.int _ _))) ?_
        first
          | refine DL_c (op_fldP _ inferInstance rfl rfl rfl) ?_
          | refine DL_c (op_fldF _ inferInstance rfl rfl) ?_
        first
          | refine DL_c (op_ldB _ inferInstance rfl rfl (rfl : _ = some (AV.sl _ _))) ?_
          | refine DL_c (op_ldB _ inferInstance rfl rfl (rfl : _ = some (AV.ref _ _ _))) ?_
          | refine DL_c (op_ldB _ inferInstance rfl rfl (rfl : _ = some (AV.v (.slice _ _ _)))) ?_
          | refine DL_c (op_ldR _ inferInstance rfl rfl (by first | rfl | exact isl_get _ _ (by omega) | exact bsl_get _ _ (by omega) | exact wsl_get0 _ _ (by omega) | exact wsl_get1 _ _ (by omega) | assumption) rfl) ?_
          | refine DL_c (op_ldF _ inferInstance rfl (by first | rfl | exact isl_get _ _ (by omega) | exact bsl_get _ _ (by omega) | exact wsl_get0 _ _ (by omega) | exact wsl_get1 _ _ (by omega) | assumption) rfl) ?_
        first
          | refine DL_c (op_lenS _ inferInstance rfl) ?_
          | refine DL_c (op_lenR _ inferInstance rfl rfl) ?_
          | refine DL_c (op_lenN _ inferInstance rfl) ?_
        refine DL_c (op_lss _ _ rfl rfl rfl) ?_
        refine DL_nil (hK18 _ ?_)
        clear hK18; try clear K18
        refine D_split rfl (fun hc78 => ?_) (fun hc78 => ?_)
        · try simp only [decide_eq_true_eq, decide_eq_false_iff_not, bne_iff_ne, bne_eq_false_iff_eq, beq_iff_eq, beq_eq_false_iff_ne, Bool.not_eq_true', Bool.not_eq_false', ne_eq, Int.not_lt, Int.not_le] at hc78
          have hkm : k < s.2.length := by omega
          have hsn := expl_snoc (s.1.getD i 0) (C.getD i 0) i s.2 k hkm
          generalize hE : expl (s.1.getD i 0) (C.getD i 0) i (s.2.take k) = E at *
          have hp1 := wsl_get0 s.2 k hkm
          have hp2 := wsl_get1 s.2 k hkm
          generalize s.2.getD k (0, 0) = pk at *
          refine D_skip (hK17 _ ?_)
          clear hK17; try clear K17
          refine D_seq fun K19 hK19 => ?_
          refine D_block ?_
          rcases (three E (pk.1 = (i : Int))) with hEt | ⟨hEt, hpi⟩ | ⟨hEt, hpi⟩
          · skip
            subst hEt
            refine D_anyL 25 [81, 82, 83, 84, 85, 86, 87, 88, 89, 90, 91, 92, 93, 94, 95, 96, 97, 98, 99, 100, 101, 102, 103, 104, 105] [] (by kernel_rfl) (by kernel_rfl) rfl (nodupO_iff rfl) (rfl : _ = [_, _, _, _, _, _, _, _, _, _, _, _, _, _, _, _, _, _, _, _, _, _, _, _, _]) (rfl : _ = [_]) ?_
            refine any_c (_, none) (fun τ => op_mv _ (rfl : _ = AV.v (.bool _))) ?_
            refine any_n (rfl : _ = [_]) ?_
            refine any_c (_, none) (fun τ => op_mv _ (rfl : _ = AV.v (.bool _))) ?_
            refine any_n (rfl : _ = [_, _]) ?_
            refine any_cn rfl (fun τ => rfl) (by decide) ?_
            refine any_n (rfl : _ = [_, _, _]) ?_
            refine any_cn rfl (fun τ => rfl) (by decide) ?_
            refine any_n (rfl : _ = [_, _, _, _]) ?_
            refine any_cn rfl (fun τ => rfl) (by decide) ?_
            refine any_n (rfl : _ = [_, _, _, _, _]) ?_
            refine any_cn rfl (fun τ => rfl) (by decide) ?_
            refine any_n (rfl : _ = [_, _, _, _, _, _]) ?_
            refine any_cn rfl (fun τ => rfl) (by decide) ?_
            refine any_n (rfl : _ = [_, _, _, _, _, _, _]) ?_
            refine any_cn rfl (fun τ => rfl) (by decide) ?_
            refine any_n (rfl : _ = [_, _, _, _, _, _, _, _]) ?_
            refine any_cn rfl (fun τ => rfl) (by decide) ?_
            refine any_n (rfl : _ = [_, _, _, _, _, _, _, _, _]) ?_
            refine any_cn rfl (fun τ => rfl) (by decide) ?_
            refine any_n (rfl : _ = [_, _, _, _, _, _, _, _, _, _]) ?_
            refine any_cn rfl (fun τ => rfl) (by decide) ?_
            refine any_n (rfl : _ = [_, _, _, _, _, _, _, _, _, _, _]) ?_
            refine any_cu rfl (fun τ => rfl) ?_
            refine any_n (rfl : _ = [_, _, _, _, _, _, _, _, _, _, _, _]) ?_
            refine any_cu rfl (fun τ => rfl) ?_
            refine any_n (rfl : _ = [_, _, _, _, _, _, _, _, _, _, _, _, _]) ?_
            refine any_cu rfl (fun τ => rfl) ?_
            refine any_n (rfl : _ = [_, _, _, _, _, _, _, _, _, _, _, _, _, _]) ?_
            refine any_cu rfl (fun τ => rfl) ?_
            refine any_n (rfl : _ = [_, _, _, _, _, _, _, _, _, _, _, _, _, _, _]) ?_
            refine any_cu rfl (fun τ => rfl) ?_
            refine any_n (rfl : _ = [_, _, _, _, _, _, _, _, _, _, _, _, _, _, _, _]) ?_
            refine any_cu rfl (fun τ => rfl) ?_
            refine any_n (rfl : _ = [_, _, _, _, _, _, _, _, _, _, _, _, _, _, _, _, _]) ?_
            refine any_cu rfl (fun τ => rfl) ?_
            refine any_n (rfl : _ = [_, _, _, _, _, _, _, _, _, _, _, _, _, _, _, _, _, _]) ?_
            refine any_cu rfl (fun τ => rfl) ?_
            refine any_n (rfl : _ = [_, _, _, _, _, _, _, _, _, _, _, _, _, _, _, _, _, _, _]) ?_
            refine any_cu rfl (fun τ => rfl) ?_
            refine any_n (rfl : _ = [_, _, _, _, _, _, _, _, _, _, _, _, _, _, _, _, _, _, _, _]) ?_
            refine any_cu rfl (fun τ => rfl) ?_
            refine any_n (rfl : _ = [_, _, _, _, _, _, _, _, _, _, _, _, _, _, _, _, _, _, _, _, _]) ?_
            refine any_cu rfl (fun τ => rfl) ?_
            refine any_n (rfl : _ = [_, _, _, _, _, _, _, _, _, _, _, _, _, _, _, _, _, _, _, _, _, _]) ?_
            refine any_cu rfl (fun τ => rfl) ?_
            refine any_n (rfl : _ = [_, _, _, _, _, _, _, _, _, _, _, _, _, _, _, _, _, _, _, _, _, _, _]) ?_
            refine any_cn rfl (fun τ => rfl) (by decide) ?_
            refine any_n (rfl : _ = [_, _, _, _, _, _, _, _, _, _, _, _, _, _, _, _, _, _, _, _, _, _, _, _]) ?_
            refine any_c (_, none) (fun τ => op_pick _ _ _ rfl (rfl : _ = AV.v (.bool _))) ?_
            refine any_n (rfl : _ = [_, _, _, _, _, _, _, _, _, _, _, _, _, _, _, _, _, _, _, _, _, _, _, _, _]) ?_
            refine any_end ⟨rfl, ?_⟩
            refine DL_c (op_as _ (rfl : _ = AV.v (.bool _))) ?_
            refine DL_nil (hK19 _ ?_)
            clear hK19; try clear K19
            refine D_region ?_
            refine DL_c (op_mv _ (rfl : _ = AV.v (.int _ _))) ?_
            first
              | refine DL_c (op_add _ _ rfl rfl (i64w (by omega))) ?_
              | refine DL_c (op_add _ _ rfl rfl rfl) ?_
            refine DL_c (op_as _ (rfl : _ = AV.v (.int _ _))) ?_
            refine DL_nil ?_
            refine ⟨k + 1, by omega, Le.mk [] [] rfl ⟨.ptr, .ptr, .v, lvB ?_, lvI (by omega), trivial⟩ rfl rfl rfl trivial ⟨⟨rfl, ⟨_, rfl, .box rfl (lv_cons .sl (lv_cons .sl lv_nil))⟩, rfl⟩, ⟨rfl, ⟨_, rfl, .box rfl (lv_cons .sl (lv_cons .sl lv_nil))⟩, rfl⟩, trivial⟩, by omega⟩
            first
             | (rw [hsn]; rfl)
             | (rw [hsn, b1]; rfl)
             | (rw [hsn, b1]; simp)
          · skip
            subst hEt
            have b1 : (pk.1 == (i : Int)) = true := by simp [hpi]
            refine D_anyL 25 [81, 82, 83, 84, 85, 86, 87, 88, 89, 90, 91, 92, 93, 94, 95, 96, 97, 98, 99, 100, 101, 102, 103, 104, 105] [] (by kernel_rfl) (by kernel_rfl) rfl (nodupO_iff rfl) (rfl : _ = [_, _, _, _, _, _, _, _, _, _, _, _, _, _, _, _, _, _, _, _, _, _, _, _, _]) (rfl : _ = [_]) ?_
            refine any_c (_, none) (fun τ => op_mv _ (rfl : _ = AV.v (.bool _))) ?_
            refine any_n (rfl : _ = [_]) ?_
            refine any_c (_, none) (fun τ => op_mv _ (rfl : _ = AV.v (.bool _))) ?_
            refine any_n (rfl : _ = [_, _]) ?_
            first
              | refine any_cy (_, none) rfl (fun τ => rfl) (fun τ => op_fldP _ inferInstance rfl rfl rfl) ?_
              | refine any_cy (_, none) rfl (fun τ => rfl) (fun τ => op_fldF _ inferInstance rfl rfl) ?_
            refine any_n (rfl : _ = [_, _, _]) ?_
            first
              | refine any_cy (_, none) rfl (fun τ => rfl) (fun τ => op_ldB _ inferInstance rfl rfl (rfl : _ = some (AV.sl _ _))) ?_
              | refine any_cy (_, none) rfl (fun τ => rfl) (fun τ => op_ldB _ inferInstance rfl rfl (rfl : _ = some (AV.ref _ _ _))) ?_
              | refine any_cy (_, none) rfl (fun τ => rfl) (fun τ => op_ldB _ inferInstance rfl rfl (rfl : _ = some (AV.v (.slice _ _ _)))) ?_
              | refine any_cy (_, none) rfl (fun τ => rfl) (fun τ => op_ldR _ inferInstance rfl rfl (by first | rfl | exact isl_get _ _ (by omega) | exact bsl_get _ _ (by omega) | exact wsl_get0 _ _ (by omega) | exact wsl_get1 _ _ (by omega) | assumption) rfl) ?_
              | refine any_cy (_, none) rfl (fun τ => rfl) (fun τ => op_ldF _ inferInstance rfl (by first | rfl | exact isl_get _ _ (by omega) | exact bsl_get _ _ (by omega) | exact wsl_get0 _ _ (by omega) | exact wsl_get1 _ _ (by omega) | assumption) rfl) ?_
            refine any_n (rfl : _ = [_, _, _, _]) ?_
            refine any_cy (_, none) rfl (fun τ => rfl) (fun τ => op_mv _ (rfl : _ = AV.v (.int _ _))) ?_
            refine any_n (rfl : _ = [_, _, _, _, _]) ?_
            first
              | refine any_cy (_, none) rfl (fun τ => rfl) (fun τ => op_ixS _ _ inferInstance rfl rfl _ rfl (by omega) (by first | assumption | decide | (simp [isl]; omega)) (by first | exact Nat.mul_one _ | rfl)) ?_
              | refine any_cy (_, none) rfl (fun τ => rfl) (fun τ => op_ixS _ _ inferInstance rfl rfl 0 rfl (by omega) (by first | assumption | decide | (simp [isl]; omega)) (by first | exact Nat.mul_one _ | rfl)) ?_
              | refine any_cy (_, none) rfl (fun τ => rfl) (fun τ => op_ixS _ _ inferInstance rfl rfl 1 rfl (by omega) (by first | assumption | decide | (simp [isl]; omega)) (by first | exact Nat.mul_one _ | rfl)) ?_
              | refine any_cy (_, none) rfl (fun τ => rfl) (fun τ => op_ixS _ _ inferInstance rfl rfl (Int.toNat _) (Int.toNat_of_nonneg (by omega)).symm (by omega) (by first | assumption | decide | (simp [isl]; omega)) (by first | exact Nat.mul_one _ | rfl)) ?_
              | refine any_cy (_, none) rfl (fun τ => rfl) (fun τ => op_ixR _ _ inferInstance rfl rfl rfl _ rfl (by omega) (by first | exact Nat.mul_one _ | rfl)) ?_
              | refine any_cy (_, none) rfl (fun τ => rfl) (fun τ => op_ixR _ _ inferInstance rfl rfl rfl 0 rfl (by omega) (by first | exact Nat.mul_one _ | rfl)) ?_
              | refine any_cy (_, none) rfl (fun τ => rfl) (fun τ => op_ixR _ _ inferInstance rfl rfl rfl 1 rfl (by omega) (by first | exact Nat.mul_one _ | rfl)) ?_
              | refine any_cy (_, none) rfl (fun τ => rfl) (fun τ => op_ixR _ _ inferInstance rfl rfl rfl (Int.toNat _) (Int.toNat_of_nonneg (by omega)).symm (by omega) (by first | exact Nat.mul_one _ | rfl)) ?_
            refine any_n (rfl : _ = [_, _, _, _, _, _]) ?_
            first
              | refine any_cy (_, none) rfl (fun τ => rfl) (fun τ => op_fldP _ inferInstance rfl rfl rfl) ?_
              | refine any_cy (_, none) rfl (fun τ => rfl) (fun τ => op_fldF _ inferInstance rfl rfl) ?_
            refine any_n (rfl : _ = [_, _, _, _, _, _, _]) ?_
            refine any_cy (_, none) rfl (fun τ => rfl) (fun τ => op_ldF _ inferInstance rfl hp1 rfl) ?_
            refine any_n (rfl : _ = [_, _, _, _, _, _, _, _]) ?_
            refine any_cy (_, none) rfl (fun τ => rfl) (fun τ => op_mv _ (rfl : _ = AV.v (.int _ _))) ?_
            refine any_n (rfl : _ = [_, _, _, _, _, _, _, _, _]) ?_
            refine any_cy (_, none) rfl (fun τ => rfl) (fun τ => op_eql _ _ rfl rfl b1) ?_
            refine any_n (rfl : _ = [_, _, _, _, _, _, _, _, _, _]) ?_
            refine any_cy (_, none) rfl (fun τ => rfl) (fun τ => op_mv _ (rfl : _ = AV.v (.bool _))) ?_
            refine any_n (rfl : _ = [_, _, _, _, _, _, _, _, _, _, _]) ?_
            first
              | refine any_cy (_, none) rfl (fun τ => rfl) (fun τ => op_fldP _ inferInstance rfl rfl rfl) ?_
              | refine any_cy (_, none) rfl (fun τ => rfl) (fun τ => op_fldF _ inferInstance rfl rfl) ?_
            refine any_n (rfl : _ = [_, _, _, _, _, _, _, _, _, _, _, _]) ?_
            first
              | refine any_cy (_, none) rfl (fun τ => rfl) (fun τ => op_ldB _ inferInstance rfl rfl (rfl : _ = some (AV.sl _ _))) ?_
              | refine any_cy (_, none) rfl (fun τ => rfl) (fun τ => op_ldB _ inferInstance rfl rfl (rfl : _ = some (AV.ref _ _ _))) ?_
              | refine any_cy (_, none) rfl (fun τ => rfl) (fun τ => op_ldB _ inferInstance rfl rfl (rfl : _ = some (AV.v (.slice _ _ _)))) ?_
              | refine any_cy (_, none) rfl (fun τ => rfl) (fun τ => op_ldR _ inferInstance rfl rfl (by first | rfl | exact isl_get _ _ (by omega) | exact bsl_get _ _ (by omega) | exact wsl_get0 _ _ (by omega) | exact wsl_get1 _ _ (by omega) | assumption) rfl) ?_
              | refine any_cy (_, none) rfl (fun τ => rfl) (fun τ => op_ldF _ inferInstance rfl (by first | rfl | exact isl_get _ _ (by omega) | exact bsl_get _ _ (by omega) | exact wsl_get0 _ _ (by omega) | exact wsl_get1 _ _ (by omega) | assumption) rfl) ?_
            refine any_n (rfl : _ = [_, _, _, _, _, _, _, _, _, _, _, _, _]) ?_
            refine any_cy (_, none) rfl (fun τ => rfl) (fun τ => op_mv _ (rfl : _ = AV.v (.int _ _))) ?_
            refine any_n (rfl : _ = [_, _, _, _, _, _, _, _, _, _, _, _, _, _]) ?_
            first
              | refine any_cy (_, none) rfl (fun τ => rfl) (fun τ => op_ixS _ _ inferInstance rfl rfl _ rfl (by omega) (by first | assumption | decide | (simp [isl]; omega)) (by first | exact Nat.mul_one _ | rfl)) ?_
              | refine any_cy (_, none) rfl (fun τ => rfl) (fun τ => op_ixS _ _ inferInstance rfl rfl 0 rfl (by omega) (by first | assumption | decide | (simp [isl]; omega)) (by first | exact Nat.mul_one _ | rfl)) ?_
              | refine any_cy (_, none) rfl (fun τ => rfl) (fun τ => op_ixS _ _ inferInstance rfl rfl 1 rfl (by omega) (by first | assumption | decide | (simp [isl]; omega)) (by first | exact Nat.mul_one _ | rfl)) ?_
              | refine any_cy (_, none) rfl (fun τ => rfl) (fun τ => op_ixS _ _ inferInstance rfl rfl (Int.toNat _) (Int.toNat_of_nonneg (by omega)).symm (by omega) (by first | assumption | decide | (simp [isl]; omega)) (by first | exact Nat.mul_one _ | rfl)) ?_
              | refine any_cy (_, none) rfl (fun τ => rfl) (fun τ => op_ixR _ _ inferInstance rfl rfl rfl _ rfl (by omega) (by first | exact Nat.mul_one _ | rfl)) ?_
              | refine any_cy (_, none) rfl (fun τ => rfl) (fun τ => op_ixR _ _ inferInstance rfl rfl rfl 0 rfl (by omega) (by first | exact Nat.mul_one _ | rfl)) ?_
              | refine any_cy (_, none) rfl (fun τ => rfl) (fun τ => op_ixR _ _ inferInstance rfl rfl rfl 1 rfl (by omega) (by first | exact Nat.mul_one _ | rfl)) ?_
              | refine any_cy (_, none) rfl (fun τ => rfl) (fun τ => op_ixR _ _ inferInstance rfl rfl rfl (Int.toNat _) (Int.toNat_of_nonneg (by omega)).symm (by omega) (by first | exact Nat.mul_one _ | rfl)) ?_
            refine any_n (rfl : _ = [_, _, _, _, _, _, _, _, _, _, _, _, _, _, _]) ?_
            first
              | refine any_cy (_, none) rfl (fun τ => rfl) (fun τ => op_fldP _ inferInstance rfl rfl rfl) ?_
              | refine any_cy (_, none) rfl (fun τ => rfl) (fun τ => op_fldF _ inferInstance rfl rfl) ?_
            refine any_n (rfl : _ = [_, _, _, _, _, _, _, _, _, _, _, _, _, _, _, _]) ?_
            refine any_cy (_, none) rfl (fun τ => rfl) (fun τ => op_ldF _ inferInstance rfl hp2 rfl) ?_
            refine any_n (rfl : _ = [_, _, _, _, _, _, _, _, _, _, _, _, _, _, _, _, _]) ?_
            first
              | refine any_cy (_, none) rfl (fun τ => rfl) (fun τ => op_fldP _ inferInstance rfl rfl rfl) ?_
              | refine any_cy (_, none) rfl (fun τ => rfl) (fun τ => op_fldF _ inferInstance rfl rfl) ?_
            refine any_n (rfl : _ = [_, _, _, _, _, _, _, _, _, _, _, _, _, _, _, _, _, _]) ?_
            first
              | refine any_cy (_, none) rfl (fun τ => rfl) (fun τ => op_ldB _ inferInstance rfl rfl (rfl : _ = some (AV.sl _ _))) ?_
              | refine any_cy (_, none) rfl (fun τ => rfl) (fun τ => op_ldB _ inferInstance rfl rfl (rfl : _ = some (AV.ref _ _ _))) ?_
              | refine any_cy (_, none) rfl (fun τ => rfl) (fun τ => op_ldB _ inferInstance rfl rfl (rfl : _ = some (AV.v (.slice _ _ _)))) ?_
              | refine any_cy (_, none) rfl (fun τ => rfl) (fun τ => op_ldR _ inferInstance rfl rfl (by first | rfl | exact isl_get _ _ (by omega) | exact bsl_get _ _ (by omega) | exact wsl_get0 _ _ (by omega) | exact wsl_get1 _ _ (by omega) | assumption) rfl) ?_
              | refine any_cy (_, none) rfl (fun τ => rfl) (fun τ => op_ldF _ inferInstance rfl (by first | rfl | exact isl_get _ _ (by omega) | exact bsl_get _ _ (by omega) | exact wsl_get0 _ _ (by omega) | exact wsl_get1 _ _ (by omega) | assumption) rfl) ?_
            refine any_n (rfl : _ = [_, _, _, _, _, _, _, _, _, _, _, _, _, _, _, _, _, _, _]) ?_
            refine any_cy (_, none) rfl (fun τ => rfl) (fun τ => op_mv _ (rfl : _ = AV.v (.int _ _))) ?_
            refine any_n (rfl : _ = [_, _, _, _, _, _, _, _, _, _, _, _, _, _, _, _, _, _, _, _]) ?_
            first
              | refine any_cy (_, none) rfl (fun τ => rfl) (fun τ => op_ixS _ _ inferInstance rfl rfl _ rfl (by omega) (by first | assumption | decide | (simp [isl]; omega)) (by first | exact Nat.mul_one _ | rfl)) ?_
              | refine any_cy (_, none) rfl (fun τ => rfl) (fun τ => op_ixS _ _ inferInstance rfl rfl 0 rfl (by omega) (by first | assumption | decide | (simp [isl]; omega)) (by first | exact Nat.mul_one _ | rfl)) ?_
              | refine any_cy (_, none) rfl (fun τ => rfl) (fun τ => op_ixS _ _ inferInstance rfl rfl 1 rfl (by omega) (by first | assumption | decide | (simp [isl]; omega)) (by first | exact Nat.mul_one _ | rfl)) ?_
              | refine any_cy (_, none) rfl (fun τ => rfl) (fun τ => op_ixS _ _ inferInstance rfl rfl (Int.toNat _) (Int.toNat_of_nonneg (by omega)).symm (by omega) (by first | assumption | decide | (simp [isl]; omega)) (by first | exact Nat.mul_one _ | rfl)) ?_
              | refine any_cy (_, none) rfl (fun τ => rfl) (fun τ => op_ixR _ _ inferInstance rfl rfl rfl _ rfl (by omega) (by first | exact Nat.mul_one _ | rfl)) ?_
              | refine any_cy (_, none) rfl (fun τ => rfl) (fun τ => op_ixR _ _ inferInstance rfl rfl rfl 0 rfl (by omega) (by first | exact Nat.mul_one _ | rfl)) ?_
              | refine any_cy (_, none) rfl (fun τ => rfl) (fun τ => op_ixR _ _ inferInstance rfl rfl rfl 1 rfl (by omega) (by first | exact Nat.mul_one _ | rfl)) ?_
              | refine any_cy (_, none) rfl (fun τ => rfl) (fun τ => op_ixR _ _ inferInstance rfl rfl rfl (Int.toNat _) (Int.toNat_of_nonneg (by omega)).symm (by omega) (by first | exact Nat.mul_one _ | rfl)) ?_
            refine any_n (rfl : _ = [_, _, _, _, _, _, _, _, _, _, _, _, _, _, _, _, _, _, _, _, _]) ?_
            refine any_cy (_, none) rfl (fun τ => rfl) (fun τ => op_ldF _ inferInstance rfl (by exact isl_get _ _ (by omega)) rfl) ?_
            refine any_n (rfl : _ = [_, _, _, _, _, _, _, _, _, _, _, _, _, _, _, _, _, _, _, _, _, _]) ?_
            refine any_cy (_, none) rfl (fun τ => rfl) (fun τ => op_eql _ _ rfl rfl rfl) ?_
            refine any_n (rfl : _ = [_, _, _, _, _, _, _, _, _, _, _, _, _, _, _, _, _, _, _, _, _, _, _]) ?_
            refine any_cy (_, none) rfl (fun τ => rfl) (fun τ => op_pick _ _ _ rfl (rfl : _ = AV.v (.bool _))) ?_
            refine any_n (rfl : _ = [_, _, _, _, _, _, _, _, _, _, _, _, _, _, _, _, _, _, _, _, _, _, _, _]) ?_
            refine any_c (_, none) (fun τ => op_pick _ _ _ rfl (rfl : _ = AV.v (.bool _))) ?_
            refine any_n (rfl : _ = [_, _, _, _, _, _, _, _, _, _, _, _, _, _, _, _, _, _, _, _, _, _, _, _, _]) ?_
            refine any_end ⟨rfl, ?_⟩
            refine DL_c (op_as _ (rfl : _ = AV.v (.bool _))) ?_
            refine DL_nil (hK19 _ ?_)
            clear hK19; try clear K19
            refine D_region ?_
            refine DL_c (op_mv _ (rfl : _ = AV.v (.int _ _))) ?_
            first
              | refine DL_c (op_add _ _ rfl rfl (i64w (by omega))) ?_
              | refine DL_c (op_add _ _ rfl rfl rfl) ?_
            refine DL_c (op_as _ (rfl : _ = AV.v (.int _ _))) ?_
            refine DL_nil ?_
            refine ⟨k + 1, by omega, Le.mk [] [] rfl ⟨.ptr, .ptr, .v, lvB ?_, lvI (by omega), trivial⟩ rfl rfl rfl trivial ⟨⟨rfl, ⟨_, rfl, .box rfl (lv_cons .sl (lv_cons .sl lv_nil))⟩, rfl⟩, ⟨rfl, ⟨_, rfl, .box rfl (lv_cons .sl (lv_cons .sl lv_nil))⟩, rfl⟩, trivial⟩, by omega⟩
            first
             | (rw [hsn]; rfl)
             | (rw [hsn, b1]; rfl)
             | (rw [hsn, b1]; simp)
          · skip
            subst hEt
            have b1 : (pk.1 == (i : Int)) = false := by simp [hpi]
            refine D_anyL 25 [81, 82, 83, 84, 85, 86, 87, 88, 89, 90, 91, 92, 93, 94, 95, 96, 97, 98, 99, 100, 101, 102, 103, 104, 105] [] (by kernel_rfl) (by kernel_rfl) rfl (nodupO_iff rfl) (rfl : _ = [_, _, _, _, _, _, _, _, _, _, _, _, _, _, _, _, _, _, _, _, _, _, _, _, _]) (rfl : _ = [_]) ?_
            refine any_c (_, none) (fun τ => op_mv _ (rfl : _ = AV.v (.bool _))) ?_
            refine any_n (rfl : _ = [_]) ?_
            refine any_c (_, none) (fun τ => op_mv _ (rfl : _ = AV.v (.bool _))) ?_
            refine any_n (rfl : _ = [_, _]) ?_
            first
              | refine any_cy (_, none) rfl (fun τ => rfl) (fun τ => op_fldP _ inferInstance rfl rfl rfl) ?_
              | refine any_cy (_, none) rfl (fun τ => rfl) (fun τ => op_fldF _ inferInstance rfl rfl) ?_
            refine any_n (rfl : _ = [_, _, _]) ?_
            first
              | refine any_cy (_, none) rfl (fun τ => rfl) (fun τ => op_ldB _ inferInstance rfl rfl (rfl : _ = some (AV.sl _ _))) ?_
              | refine any_cy (_, none) rfl (fun τ => rfl) (fun τ => op_ldB _ inferInstance rfl rfl (rfl : _ = some (AV.ref _ _ _))) ?_
              | refine any_cy (_, none) rfl (fun τ => rfl) (fun τ => op_ldB _ inferInstance rfl rfl (rfl : _ = some (AV.v (.slice _ _ _)))) ?_
              | refine any_cy (_, none) rfl (fun τ => rfl) (fun τ => op_ldR _ inferInstance rfl rfl (by first | rfl | exact isl_get _ _ (by omega) | exact bsl_get _ _ (by omega) | exact wsl_get0 _ _ (by omega) | exact wsl_get1 _ _ (by omega) | assumption) rfl) ?_
              | refine any_cy (_, none) rfl (fun τ => rfl) (fun τ => op_ldF _ inferInstance rfl (by first | rfl | exact isl_get _ _ (by omega) | exact bsl_get _ _ (by omega) | exact wsl_get0 _ _ (by omega) | exact wsl_get1 _ _ (by omega) | assumption) rfl) ?_
            refine any_n (rfl : _ = [_, _, _, _]) ?_
            refine any_cy (_, none) rfl (fun τ => rfl) (fun τ => op_mv _ (rfl : _ = AV.v (.int _ _))) ?_
            refine any_n (rfl : _ = [_, _, _, _, _]) ?_
            first
              | refine any_cy (_, none) rfl (fun τ => rfl) (fun τ => op_ixS _ _ inferInstance rfl rfl _ rfl (by omega) (by first | assumption | decide | (simp [isl]; omega)) (by first | exact Nat.mul_one _ | rfl)) ?_
              | refine any_cy (_, none) rfl (fun τ => rfl) (fun τ => op_ixS _ _ inferInstance rfl rfl 0 rfl (by omega) (by first | assumption | decide | (simp [isl]; omega)) (by first | exact Nat.mul_one _ | rfl)) ?_
              | refine any_cy (_, none) rfl (fun τ => rfl) (fun τ => op_ixS _ _ inferInstance rfl rfl 1 rfl (by omega) (by first | assumption | decide | (simp [isl]; omega)) (by first | exact Nat.mul_one _ | rfl)) ?_
              | refine any_cy (_, none) rfl (fun τ => rfl) (fun τ => op_ixS _ _ inferInstance rfl rfl (Int.toNat _) (Int.toNat_of_nonneg (by omega)).symm (by omega) (by first | assumption | decide | (simp [isl]; omega)) (by first | exact Nat.mul_one _ | rfl)) ?_
              | refine any_cy (_, none) rfl (fun τ => rfl) (fun τ => op_ixR _ _ inferInstance rfl rfl rfl _ rfl (by omega) (by first | exact Nat.mul_one _ | rfl)) ?_
              | refine any_cy (_, none) rfl (fun τ => rfl) (fun τ => op_ixR _ _ inferInstance rfl rfl rfl 0 rfl (by omega) (by first | exact Nat.mul_one _ | rfl)) ?_
              | refine any_cy (_, none) rfl (fun τ => rfl) (fun τ => op_ixR _ _ inferInstance rfl rfl rfl 1 rfl (by omega) (by first | exact Nat.mul_one _ | rfl)) ?_
              | refine any_cy (_, none) rfl (fun τ => rfl) (fun τ => op_ixR _ _ inferInstance rfl rfl rfl (Int.toNat _) (Int.toNat_of_nonneg (by omega)).symm (by omega) (by first | exact Nat.mul_one _ | rfl)) ?_
            refine any_n (rfl : _ = [_, _, _, _, _, _]) ?_
            first
              | refine any_cy (_, none) rfl (fun τ => rfl) (fun τ => op_fldP _ inferInstance rfl rfl rfl) ?_
              | refine any_cy (_, none) rfl (fun τ => rfl) (fun τ => op_fldF _ inferInstance rfl rfl) ?_
            refine any_n (rfl : _ = [_, _, _, _, _, _, _]) ?_
            refine any_cy (_, none) rfl (fun τ => rfl) (fun τ => op_ldF _ inferInstance rfl hp1 rfl) ?_
            refine any_n (rfl : _ = [_, _, _, _, _, _, _, _]) ?_
            refine any_cy (_, none) rfl (fun τ => rfl) (fun τ => op_mv _ (rfl : _ = AV.v (.int _ _))) ?_
            refine any_n (rfl : _ = [_, _, _, _, _, _, _, _, _]) ?_
            refine any_cy (_, none) rfl (fun τ => rfl) (fun τ => op_eql _ _ rfl rfl b1) ?_
            refine any_n (rfl : _ = [_, _, _, _, _, _, _, _, _, _]) ?_
            refine any_cy (_, none) rfl (fun τ => rfl) (fun τ => op_mv _ (rfl : _ = AV.v (.bool _))) ?_
            refine any_n (rfl : _ = [_, _, _, _, _, _, _, _, _, _, _]) ?_
            refine any_cn rfl (fun τ => rfl) (by decide) ?_
            refine any_n (rfl : _ = [_, _, _, _, _, _, _, _, _, _, _, _]) ?_
            refine any_cn rfl (fun τ => rfl) (by decide) ?_
            refine any_n (rfl : _ = [_, _, _, _, _, _, _, _, _, _, _, _, _]) ?_
            refine any_cn rfl (fun τ => rfl) (by decide) ?_
            refine any_n (rfl : _ = [_, _, _, _, _, _, _, _, _, _, _, _, _, _]) ?_
            refine any_cn rfl (fun τ => rfl) (by decide) ?_
            refine any_n (rfl : _ = [_, _, _, _, _, _, _, _, _, _, _, _, _, _, _]) ?_
            refine any_cn rfl (fun τ => rfl) (by decide) ?_
            refine any_n (rfl : _ = [_, _, _, _, _, _, _, _, _, _, _, _, _, _, _, _]) ?_
            refine any_cn rfl (fun τ => rfl) (by decide) ?_
            refine any_n (rfl : _ = [_, _, _, _, _, _, _, _, _, _, _, _, _, _, _, _, _]) ?_
            refine any_cn rfl (fun τ => rfl) (by decide) ?_
            refine any_n (rfl : _ = [_, _, _, _, _, _, _, _, _, _, _, _, _, _, _, _, _, _]) ?_
            refine any_cn rfl (fun τ => rfl) (by decide) ?_
            refine any_n (rfl : _ = [_, _, _, _, _, _, _, _, _, _, _, _, _, _, _, _, _, _, _]) ?_
            refine any_cn rfl (fun τ => rfl) (by decide) ?_
            refine any_n (rfl : _ = [_, _, _, _, _, _, _, _, _, _, _, _, _, _, _, _, _, _, _, _]) ?_
            refine any_cn rfl (fun τ => rfl) (by decide) ?_
            refine any_n (rfl : _ = [_, _, _, _, _, _, _, _, _, _, _, _, _, _, _, _, _, _, _, _, _]) ?_
            refine any_cn rfl (fun τ => rfl) (by decide) ?_
            refine any_n (rfl : _ = [_, _, _, _, _, _, _, _, _, _, _, _, _, _, _, _, _, _, _, _, _, _]) ?_
            refine any_cn rfl (fun τ => rfl) (by decide) ?_
            refine any_n (rfl : _ = [_, _, _, _, _, _, _, _, _, _, _, _, _, _, _, _, _, _, _, _, _, _, _]) ?_
            refine any_cy (_, none) rfl (fun τ => rfl) (fun τ => op_pick _ _ _ rfl (rfl : _ = AV.v (.bool _))) ?_
            refine any_n (rfl : _ = [_, _, _, _, _, _, _, _, _, _, _, _, _, _, _, _, _, _, _, _, _, _, _, _]) ?_
            refine any_c (_, none) (fun τ => op_pick _ _ _ rfl (rfl : _ = AV.v (.bool _))) ?_
            refine any_n (rfl : _ = [_, _, _, _, _, _, _, _, _, _, _, _, _, _, _, _, _, _, _, _, _, _, _, _, _]) ?_
            refine any_end ⟨rfl, ?_⟩
            refine DL_c (op_as _ (rfl : _ = AV.v (.bool _))) ?_
            refine DL_nil (hK19 _ ?_)
            clear hK19; try clear K19
            refine D_region ?_
            refine DL_c (op_mv _ (rfl : _ = AV.v (.int _ _))) ?_
            first
              | refine DL_c (op_add _ _ rfl rfl (i64w (by omega))) ?_
              | refine DL_c (op_add _ _ rfl rfl rfl) ?_
            refine DL_c (op_as _ (rfl : _ = AV.v (.int _ _))) ?_
            refine DL_nil ?_
            refine ⟨k + 1, by omega, Le.mk [] [] rfl ⟨.ptr, .ptr, .v, lvB ?_, lvI (by omega), trivial⟩ rfl rfl rfl trivial ⟨⟨rfl, ⟨_, rfl, .box rfl (lv_cons .sl (lv_cons .sl lv_nil))⟩, rfl⟩, ⟨rfl, ⟨_, rfl, .box rfl (lv_cons .sl (lv_cons .sl lv_nil))⟩, rfl⟩, trivial⟩, by omega⟩
            first
             | (rw [hsn]; rfl)
             | (rw [hsn, b1]; rfl)
             | (rw [hsn, b1]; simp)
        · try simp only [decide_eq_true_eq, decide_eq_false_iff_not, bne_iff_ne, bne_eq_false_iff_eq, beq_iff_eq, beq_eq_false_iff_ne, Bool.not_eq_true', Bool.not_eq_false', ne_eq, Int.not_lt, Int.not_le] at hc78
          have hke : s.2.take k = s.2 := List.take_of_length_le (by omega)
          refine D_exit ?_
          refine id (hK15 _ ?_)
          clear hK15; try clear K15
          refine D_seq fun K20 hK20 => ?_
          refine D_region ?_
          refine DL_c (op_mv _ (rfl : _ = AV.v (.bool _))) ?_
          refine DL_c (op_not (p := true) _ (by exact congrArg (fun b => AV.v (.bool b)) ((congrArg (expl _ _ _) hke).trans hex)) (rfl : _ = false)) ?_
          refine DL_nil (hK20 _ ?_)
          clear hK20; try clear K20
          refine D_cF rfl rfl ?_
          refine D_skip (hK13 _ ?_)
          clear hK13; try clear K13
          refine D_region ?_
          refine DL_c (op_mv _ (rfl : _ = AV.v (.int _ _))) ?_
          first
            | refine DL_c (op_add _ _ rfl rfl (i64w (by omega))) ?_
            | refine DL_c (op_add _ _ rfl rfl rfl) ?_
          refine DL_c (op_as _ (rfl : _ = AV.v (.int _ _))) ?_
          refine DL_nil ?_
          exact ⟨i + 1, by omega, Le.mk [] [] rfl ⟨.ptr, .ptr, lvI (by omega), trivial⟩ rfl rfl rfl trivial ⟨⟨rfl, ⟨_, rfl, .box rfl (lv_cons .sl (lv_cons .sl lv_nil))⟩, rfl⟩, ⟨rfl, ⟨_, rfl, .box rfl (lv_cons .sl (lv_cons .sl lv_nil))⟩, rfl⟩, trivial⟩, by omega⟩
    · try simp only [decide_eq_true_eq, decide_eq_false_iff_not, bne_iff_ne, bne_eq_false_iff_eq, beq_iff_eq, beq_eq_false_iff_ne, Bool.not_eq_true', Bool.not_eq_false', ne_eq, Int.not_lt, Int.not_le] at hc60
      refine D_exit ?_
      refine id (hK9 _ ?_)
      clear hK9; try clear K9
      refine D_seq fun K21 hK21 => ?_
      refine D_region ?_
      refine DL_c (op_callH inferInstance (by repeat' (first | exact argsLv_nil | refine argsLv_cons ?_ ?_ | exact Lv.v | exact Lv.sl | exact Lv.fp | exact Lv.nil | refine Lv.agg rfl ?_ | exact lv_nil | refine lv_cons ?_ ?_)) (lives_spec) rfl rfl) ?_
      refine DL_c (op_as _ (rfl : _ = AV.v (.bool _))) ?_
      refine DL_nil (hK21 _ ?_)
      clear hK21; try clear K21
      refine D_ret ?_
      exact ret1 (.inr rfl) rfl (.tmp (rfl : _ = AV.v (.bool true))) (Le.out [] [] .v rfl rfl rfl trivial trivial)
end Go.Proofs.Ytphlaojoehmhaaa
