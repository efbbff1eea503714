/- Part 15 of the texts that the walk leans on: the machine, the walks, the plain laws. -/
import Derived.Test.YtkbkmngbenohkaaBrZ14
set_option linter.unusedSimpArgs false
set_option linter.unusedVariables false
namespace Go.Proofs.Ytkbkmngbenohkaa
open Go.RowKit

theorem inh1_cons (o : List Int) (v u : Nat) (a : List Nat) : inh1 o v (u :: a) = inh1 (if o.getD u 0 = 1 ∧ o.getD v 0 = 0 then o.set v 1 else o) v a := rfl
theorem inh1_ne {v i : Nat} (h : i ≠ v) : ∀ (a : List Nat) (o : List Int), (inh1 o v a).getD i 0 = o.getD i 0
 | [], _ => rfl
 | u :: a, o => by
  rw [inh1_cons, inh1_ne h a]
  split
  ·rw [getD_set, if_neg (fun e => h e.1)]
  ·rfl
theorem inh1_keep {v : Nat} : ∀ (a : List Nat) (o : List Int), o.getD v 0 ≠ 0 → (inh1 o v a).getD v 0 ≠ 0
 | [], _, h => h
 | u :: a, o, h => by
  rw [inh1_cons, if_neg (fun e => h e.2)]
  exact inh1_keep a o h
theorem inh1_hit {v : Nat} : ∀ (a : List Nat) (o : List Int), v < o.length → (∃ u ∈ a, u ≠ v ∧ o.getD u 0 = 1) → (inh1 o v a).getD v 0 ≠ 0
 | [], _, _, h => by obtain ⟨u, hu, _⟩ := h; simp at hu
 | w :: a, o, hv, ⟨u, hu, hne, h1⟩ => by
  rw [inh1_cons]
  by_cases hc : o.getD w 0 = 1 ∧ o.getD v 0 = 0
  ·rw [if_pos hc]
   exact inh1_keep a _ (by rw [getD_set, if_pos ⟨rfl, hv⟩]; decide)
  ·rw [if_neg hc]
   rcases List.mem_cons.1 hu with rfl | hu
   ·exact inh1_keep a o fun h0 => hc ⟨h1, h0⟩
   ·exact inh1_hit a o hv ⟨u, hu, hne, h1⟩
theorem stK_fix (Ps : List (List Int)) (s : List Int) (i : Nat) : ∀ k, i < k → (stK Ps s true k).getD i 0 = (stK Ps s true (i + 1)).getD i 0
 | 0, h => by omega
 | k + 1, h => by
  by_cases hk : i = k
  ·rw [hk]
  ·rw [stK_succ, inh1_ne hk]
   exact stK_fix Ps s i k (by omega)
theorem status_inh {Ps : List (List Int)} (h64 : Ps.length ≤ 64) (hlt : ∀ {a b : Nat}, Clo (edg Ps Ps.length 0) a b → a < b) (s : List Int) : rinh Ps (status32 Ps s true) Ps.length := by
 intro v hv h0 u hu h1
 unfold status32 at h0 h1
 obtain ⟨hun, hor⟩ := (upE_mem h64 hv).1 hu
 rcases hor with rfl | hc
 ·rw [h0] at h1; cases h1
 ·have huv := hlt hc
  rw [stK_fix Ps s v Ps.length hv, stK_succ] at h0
  rw [stK_fix Ps s u Ps.length hun, ← stK_fix Ps s u v huv] at h1
  exact inh1_hit _ _ (by rw [stK_len]; exact hv) ⟨u, hu, by omega, h1⟩ h0
set_option maxHeartbeats 1000000 in
theorem bren_law (m : Nat) (l : List Int) (hm : l.length = m) (h1 : m ≤ 4611686018427387904) (hr : Rng l) (ms : Nat) (s : List Int) (hms : s.length = ms) (h2 : ms ≤ 4611686018427387904) (hs : Rng s)
  (head : Int) (hh0 : -9223372036854775808 ≤ head ∧ head ≤ 9223372036854775807) (mp : Nat) (p : List Int) (hmp : p.length = mp) (h3 : mp ≤ 4611686018427387904) (hp : Rng p) :
  Spec Try.prog 26 (inSt [.sl m (isl l), .sl ms (isl s), .v (.int .i64 head), .sl mp (isl p)] []) (outSt (.v (.bool true)) []) := by
 have hP := par32_spec m l hm h1 hr
 have hN := par32_near l
 obtain ⟨hn1, hn2⟩ := prM_pos l
 have hPn := par32_len l
 generalize par32 l = Ps at hP hN hPn
 generalize prM l = n at hP hPn hn1 hn2
 have hR := ren_spec hN hPn mp p hmp h3 hp
 have hpm : Pm n (toP p n) := toP_pm p n
 generalize toP p n = to at hR hpm
 have hG : GG n Ps := hPn ▸ hN.gg
 have hpm' : Pm Ps.length to := hPn.symm ▸ hpm
 have hG' : GG n (ren32 Ps to) := hPn ▸ ren32_gg hpm' hN
 have hNw := newGG_spec hG' fun a ha => by have := ren32_nxt hpm' hN (a := a) (by omega); rw [hPn] at this; omega
 have hst := status32_len Ps s true
 have h012 := status_012 Ps s true
 have hri := status_inh (by omega) hN.lt s
 have hSt := status_spec n Ps hG ms s hms h2 hs true
 rw [hPn] at hst h012 hri
 generalize status32 Ps s true = st at hSt hst h012 hri
 have hn64 : n ≤ 64 := by omega
 have htl := hpm.len
 obtain ⟨h, hh⟩ := Int.eq_ofNat_of_zero_le (around_lo head n (by omega))
 have hhn : h < n := by have := around_hi head n (by omega); omega
 have hlt : ∀ {a b : Nat}, Clo (edg Ps n 0) a b → a < b := fun hc => hN.lt (by rw [hPn]; exact hc)
 have hF := findR_spec hPn hn64 hG.V hlt st (by omega) (h : Int)
 have hx := exact_R hPn hn64 hG.V hlt h012 hst hri hhn
 have hdh := hpm.at_lt hhn
 have hTl : (tS n to st n).length = n := tS_len n to st n
 have hrn := ren_rn hpm' hN.valid (by omega) (st := st) (by omega) (v := h) (by omega)
 rw [hPn] at hrn
 have hM2 := minN_spec hG' (tS n to st n) hTl (to.getD h 0)
 have hAl := minL_len n (edg Ps n 0) st (upE Ps h)
 have hAu := upE_len Ps h
 have hA2 := fun i => minL_len2 n (edg Ps n 0) st (upE Ps h) i
 have hB2 := fun i => minL_len2 n (edg (ren32 Ps to) n 0) (tS n to st n) (upE (ren32 Ps to) (to.getD h 0)) i
 unfold findS at hF
 rw [hst] at hF
 generalize minL n (edg Ps n 0) st (upE Ps h) = AL at hrn hAl hA2 hx
 generalize minL n (edg (ren32 Ps to) n 0) (tS n to st n) (upE (ren32 Ps to) (to.getD h 0)) = BL at hrn hM2 hB2
 have hlen := hrn.len
 refine Spec.ofN Try.func26 rfl Try.ntmps26 rfl ?_
 refine D_seq fun K1 hK1 => ?_
 refine D_region ?_
 refine DL_c (op_as _ (rfl : _ = AV.v (.bool _))) ?_
 refine DL_nil (hK1 _ ?_)
 clear hK1; try clear K1
 refine D_seq fun K2 hK2 => ?_
 refine D_region ?_
 refine DL_c (op_mv _ (rfl : _ = AV.sl _ _)) ?_
 refine DL_c (op_callH inferInstance (by repeat' (first | exact argsLv_nil | refine argsLv_cons ?_ ?_ | exact Lv.sl)) (hP) rfl rfl) ?_
 refine DL_c (op_as _ (rfl : _ = AV.sl _ _)) ?_
 refine DL_nil (hK2 _ ?_)
 clear hK2; try clear K2
 refine D_seq fun K3 hK3 => ?_
 refine D_region ?_
 refine DL_c (op_mv _ (rfl : _ = AV.sl _ _)) ?_
 refine DL_c (op_mv _ (rfl : _ = AV.sl _ _)) ?_
 refine DL_c (op_callH inferInstance (by repeat' (first | exact argsLv_nil | refine argsLv_cons ?_ ?_ | exact Lv.v | exact Lv.sl)) (hSt) rfl rfl) ?_
 refine DL_c (op_as _ (rfl : _ = AV.sl _ _)) ?_
 refine DL_nil (hK3 _ ?_)
 clear hK3; try clear K3
 refine D_seq fun K4 hK4 => ?_
 refine D_region ?_
 refine DL_c (op_mv _ (rfl : _ = AV.v (.int _ _))) ?_
 refine DL_c (op_mv _ (rfl : _ = AV.sl _ _)) ?_
 refine DL_c (op_lenS _ inferInstance rfl) ?_
 refine DL_c (op_callH inferInstance (by repeat' (first | exact argsLv_nil | refine argsLv_cons ?_ ?_ | exact Lv.v)) (hh ▸ around_spec head n (by omega) (by omega) hh0.1 hh0.2) rfl rfl) ?_
 refine DL_c (op_as _ (rfl : _ = AV.v (.int _ _))) ?_
 refine DL_nil (hK4 _ ?_)
 clear hK4; try clear K4
 refine D_seq fun K5 hK5 => ?_
 refine D_seq fun K6 hK6 => ?_
 refine D_region ?_
 refine DL_c (op_mv _ (rfl : _ = AV.sl _ _)) ?_
 refine DL_c (op_mv _ (rfl : _ = AV.v (.int _ _))) ?_
 refine DL_c (op_ixS _ _ inferInstance rfl rfl h rfl (by omega) (by rw [isl_len]; omega) (Nat.mul_one _)) ?_
 refine DL_c (op_ldF _ inferInstance rfl (by exact isl_get _ _ (by omega)) rfl) ?_
 refine DL_c (op_neq _ _ rfl rfl rfl) ?_
 refine DL_nil (hK6 _ ?_)
 clear hK6; try clear K6
 refine D_splitC rfl (fun hc42 => ?_) (fun hc42 => ?_)
 ·skip
  refine D_seq fun K7 hK7 => ?_
  refine D_le (σ' := mkStI 186 [] [] [] []) (by
   refine Le.mkJ [] [] rfl ?_ ?_ trivial trivial ?_
   ·exact trivial
   ·exact trivial
   ·kernel_rfl) ?_
  refine D_region ?_
  refine DL_c (op_callH inferInstance (by repeat' (exact argsLv_nil)) (lives33_spec) rfl rfl) ?_
  refine DL_c (op_as _ (rfl : _ = AV.v (.bool _))) ?_
  refine DL_nil (hK7 _ ?_)
  clear hK7; try clear K7
  refine D_ret ?_
  refine ret1 (.inr rfl) rfl (.tmp (rfl : _ = AV.v (.bool _))) (Le.out [] [] (lvB ?_) rfl rfl rfl trivial trivial)
  rfl
 ·skip
  obtain ⟨ord, hrr, hne⟩ := hx hc42
  rw [hrr] at hF
  simp only at hF
  refine D_skip (hK5 _ ?_)
  clear hK5; try clear K5
  refine D_seq fun K8 hK8 => ?_
  refine D_le (σ' := mkStI 186 [(3, _), (9, _), (10, _), (11, _)] [] [] []) (by
   refine Le.mkJ [] [] rfl ?_ ?_ trivial trivial ?_
   ·exact ⟨(iS rfl), (iS rfl), (iS rfl), (iV rfl), trivial⟩
   ·exact trivial
   ·kernel_rfl) ?_
  refine D_region ?_
  refine DL_c (op_mv _ (rfl : _ = AV.sl _ _)) ?_
  refine DL_c (op_mv _ (rfl : _ = AV.sl _ _)) ?_
  refine DL_c (op_callH inferInstance (by repeat' (first | exact argsLv_nil | refine argsLv_cons ?_ ?_ | exact Lv.sl)) (hR) rfl rfl) ?_
  refine DL_c (op_mv _ (rfl : _ = AV.tup _)) ?_
  refine DL_c (op_ext _ rfl (rfl : _ = some (AV.sl _ _))) ?_
  refine DL_c (op_ext _ rfl (rfl : _ = some (AV.sl _ _))) ?_
  refine DL_c (op_as _ (rfl : _ = AV.sl _ _)) ?_
  refine DL_c (op_as _ (rfl : _ = AV.sl _ _)) ?_
  refine DL_nil (hK8 _ ?_)
  clear hK8; try clear K8
  refine D_seq fun K9 hK9 => ?_
  refine D_region ?_
  refine DL_c (op_mv _ (rfl : _ = AV.sl _ _)) ?_
  refine DL_c (op_lenS _ inferInstance rfl) ?_
  refine DL_c (op_mk (52, 0) _ _ inferInstance rfl rfl n rfl rfl (by omega) rfl (isl_zeros n)) ?_
  refine DL_c (op_as _ (rfl : _ = AV.ref _ _ _)) ?_
  refine DL_nil (hK9 _ ?_)
  clear hK9; try clear K9
  refine D_seq fun K10 hK10 => ?_
  refine D_seq fun K11 hK11 => ?_
  refine D_region ?_
  refine DL_c (op_as _ (rfl : _ = AV.v (.int _ _))) ?_
  refine DL_nil (hK11 _ ?_)
  clear hK11; try clear K11
  refine D_block ?_
  refine D_loopL (α := Nat) (fun v => v ≤ n) 186 [(9, _), (10, _), (11, _), (12, _), (13, _), (14, _)] [] (fun v => [(15, .v (.int .i64 (v : Int)))]) (fun v => [((52, 0), .row 3 1 (isl (tS n to st v)))]) [] [] (fun v => n - v) 0 ?_ (by
   refine Le.mkJ [] [] rfl ?_ ?_ trivial trivial ?_
   ·exact ⟨(iS rfl), (iS rfl), (iV rfl), (iS rfl), (iS rfl), (iR rfl), (lvI (by rfl)), trivial⟩
   ·exact ⟨(obR rfl rfl rfl (by rw [tS_zero])), trivial⟩
   ·kernel_rfl) ?_
  ·omega
  intro v hv
  refine D_seq fun K12 hK12 => ?_
  refine D_seq fun K13 hK13 => ?_
  refine D_region ?_
  refine DL_c (op_mv _ (rfl : _ = AV.v (.int _ _))) ?_
  refine DL_c (op_mv _ (rfl : _ = AV.sl _ _)) ?_
  refine DL_c (op_lenS _ inferInstance rfl) ?_
  refine DL_c (op_lss _ _ rfl rfl rfl) ?_
  refine DL_nil (hK13 _ ?_)
  clear hK13; try clear K13
  refine D_splitC rfl (fun hc56 => ?_) (fun hc56 => ?_)
  ·skip
   have hdv := hpm.at_lt (v := v) (by omega)
   have htv := tS_len n to st v
   refine D_skip (hK12 _ ?_)
   clear hK12; try clear K12
   refine D_seq fun K14 hK14 => ?_
   refine D_block ?_
   refine D_le (σ' := mkStI 186 [(9, _), (10, _), (11, _), (12, _), (13, _), (14, _), (15, _)] [((52, 0), _)] [] []) (by
    refine Le.mkJ [] [] rfl ?_ ?_ trivial trivial ?_
    ·exact ⟨(iS rfl), (iS rfl), (iV rfl), (iS rfl), (iS rfl), (iR rfl), (iV rfl), trivial⟩
    ·exact ⟨(obE rfl rfl rfl), trivial⟩
    ·kernel_rfl) ?_
   refine D_anyL 10 [59, 60, 61, 62, 63, 64, 65, 66, 67, 68] [] (by kernel_rfl) (by kernel_rfl) rfl (nodupO_iff rfl) (rfl : _ = [_, _, _, _, _, _, _, _, _, _]) (rfl : _ = [_]) ?_
   refine any_c (_, []) (fun τ => op_mv _ (rfl : _ = AV.ref _ _ _)) ?_
   refine any_n (rfl : _ = [_]) ?_
   refine any_c (_, []) (fun τ => op_mv _ (rfl : _ = AV.sl _ _)) ?_
   refine any_n (rfl : _ = [_, _]) ?_
   refine any_c (_, []) (fun τ => op_mv _ (rfl : _ = AV.v (.int _ _))) ?_
   refine any_n (rfl : _ = [_, _, _]) ?_
   refine any_c (_, []) (fun τ => op_ixS _ _ inferInstance rfl rfl _ rfl (by omega) (by (simp only [isl_len, bsl_len, psl_len, mrows_len, nsl_len, ws_len, List.length_map, ul_len, psl_len, isl_len, nrows_len, mmap_len, smap_len, dcl_len, blR_len, prL_len, stK_len, inh1_len, st0_len, status32_len, ren32_len, tS_len]; omega)) (by exact Nat.mul_one _)) ?_
   refine any_n (rfl : _ = [_, _, _, _]) ?_
   refine any_c (_, []) (fun τ => op_ldF _ inferInstance rfl (by exact nsl_get _ _ (by omega)) rfl) ?_
   refine any_n (rfl : _ = [_, _, _, _, _]) ?_
   refine any_c (_, []) (fun τ => op_mv _ (rfl : _ = AV.sl _ _)) ?_
   refine any_n (rfl : _ = [_, _, _, _, _, _]) ?_
   refine any_c (_, []) (fun τ => op_mv _ (rfl : _ = AV.v (.int _ _))) ?_
   refine any_n (rfl : _ = [_, _, _, _, _, _, _]) ?_
   refine any_c (_, []) (fun τ => op_ixS _ _ inferInstance rfl rfl _ rfl (by omega) (by (simp only [isl_len, bsl_len, psl_len, mrows_len, nsl_len, ws_len, List.length_map, ul_len, psl_len, isl_len, nrows_len, mmap_len, smap_len, dcl_len, blR_len, prL_len, stK_len, inh1_len, st0_len, status32_len, ren32_len, tS_len]; omega)) (by exact Nat.mul_one _)) ?_
   refine any_n (rfl : _ = [_, _, _, _, _, _, _, _]) ?_
   refine any_c (_, []) (fun τ => op_ldF _ inferInstance rfl (by exact isl_get _ _ (by omega)) rfl) ?_
   refine any_n (rfl : _ = [_, _, _, _, _, _, _, _, _]) ?_
   refine any_c (_, []) (fun τ => op_ixR _ _ inferInstance rfl rfl rfl (to.getD v 0) rfl (by omega) (by exact (Nat.zero_add _).trans (Nat.mul_one _))) ?_
   refine any_n (rfl : _ = [_, _, _, _, _, _, _, _, _, _]) ?_
   refine any_end ⟨rfl, ?_⟩
   refine DL_c (op_stR _ _ inferInstance rfl rfl rfl rfl rfl (by rw [isl_len, htv]; simp only [List.length_cons, List.length_nil]; omega) (isl_put _ _ _ (by omega))) ?_
   refine DL_nil (hK14 _ ?_)
   clear hK14; try clear K14
   refine D_region ?_
   refine DL_c (op_mv _ (rfl : _ = AV.v (.int _ _))) ?_
   refine DL_c (op_add _ _ rfl rfl (i64w (by omega))) ?_
   refine DL_c (op_as _ (rfl : _ = AV.v (.int _ _))) ?_
   refine DL_nil ?_
   refine ⟨v + 1, ?_, ?_, ?_⟩
   ·omega
   ·skip
    refine Le.mkJ [] [] rfl ?_ ?_ trivial trivial ?_
    ·exact ⟨(iS rfl), (iS rfl), (iV rfl), (iS rfl), (iS rfl), (iR rfl), (lvI (by rfl)), trivial⟩
    ·exact ⟨(obR rfl rfl rfl (by rw [tS_succ hpm (by omega)])), trivial⟩
    ·kernel_rfl
   ·omega
  ·skip
   obtain rfl : v = n := by omega
   refine D_exit ?_
   refine id (hK10 _ ?_)
   clear hK10; try clear K10
   refine D_seq fun K15 hK15 => ?_
   refine D_le (Le.frzS (ys := isl (tS v to st v)) 14 rfl rfl rfl (by rw [List.drop_zero, Nat.mul_one]; exact List.take_of_length_le (by rw [isl_len, tS_len]; omega)) (by rw [isl_len, tS_len]; omega)) ?_
   refine D_region ?_
   refine DL_c (op_mv _ (rfl : _ = AV.sl _ _)) ?_
   refine DL_c (op_callH inferInstance (by repeat' (first | exact argsLv_nil | refine argsLv_cons ?_ ?_ | exact Lv.sl)) (newN_spec hN hPn) rfl rfl) ?_
   refine DL_c (op_mv _ (rfl : _ = AV.tup _)) ?_
   refine DL_c (op_ext _ rfl (rfl : _ = some (AV.fp _ _))) ?_
   refine DL_c (op_ext _ rfl (rfl : _ = some (AV.v (.int _ _)))) ?_
   refine DL_c (op_as _ (rfl : _ = AV.fp _ _)) ?_
   refine DL_c (op_as _ (rfl : _ = AV.v (.int _ _))) ?_
   refine DL_nil (hK15 _ ?_)
   clear hK15; try clear K15
   refine D_seq fun K16 hK16 => ?_
   refine D_region ?_
   refine DL_c (op_mv _ (rfl : _ = AV.sl _ _)) ?_
   refine DL_c (op_callH inferInstance (by repeat' (first | exact argsLv_nil | refine argsLv_cons ?_ ?_ | exact Lv.sl)) (hNw) rfl rfl) ?_
   refine DL_c (op_mv _ (rfl : _ = AV.tup _)) ?_
   refine DL_c (op_ext _ rfl (rfl : _ = some (AV.fp _ _))) ?_
   refine DL_c (op_ext _ rfl (rfl : _ = some (AV.v (.int _ _)))) ?_
   refine DL_c (op_as _ (rfl : _ = AV.fp _ _)) ?_
   refine DL_c (op_as _ (rfl : _ = AV.v (.int _ _))) ?_
   refine DL_nil (hK16 _ ?_)
   clear hK16; try clear K16
   refine D_seq fun K17 hK17 => ?_
   refine D_seq fun K18 hK18 => ?_
   refine D_le (σ' := mkStI 186 [(10, _), (11, _), (13, _), (14, _), (16, _), (17, _), (18, _), (19, _)] [] [] []) (by
    refine Le.mkJ [] [] rfl ?_ ?_ trivial trivial ?_
    ·exact ⟨(iS rfl), (iV rfl), (iS rfl), (iS rfl), (iF rfl), (iV rfl), (iF rfl), (iV rfl), trivial⟩
    ·exact trivial
    ·kernel_rfl) ?_
   refine D_region ?_
   refine DL_c (op_mv _ (rfl : _ = AV.fp _ _)) ?_
   refine DL_c (op_eqN _ _ (by kernel_rfl) (.inr ⟨_, _, rfl⟩) rfl) ?_
   refine DL_c (op_mv _ (rfl : _ = AV.v (.bool _))) ?_
   refine DL_cy rfl rfl (op_mv _ (rfl : _ = AV.fp _ _)) ?_
   refine DL_cy rfl rfl (op_eqN _ _ (by kernel_rfl) (.inr ⟨_, _, rfl⟩) rfl) ?_
   refine DL_c (op_pick _ _ _ rfl (rfl : _ = AV.v (.bool _))) ?_
   refine DL_c (op_mv _ (rfl : _ = AV.v (.bool _))) ?_
   refine DL_cy rfl rfl (op_mv _ (rfl : _ = AV.v (.int _ _))) ?_
   refine DL_cy rfl rfl (op_neq (r := false) _ _ rfl rfl rfl) ?_
   refine DL_c (op_pick (b := false) _ _ _ rfl rfl) ?_
   refine DL_c (op_mv _ (rfl : _ = AV.v (.bool _))) ?_
   refine DL_cy rfl rfl (op_mv _ (rfl : _ = AV.v (.int _ _))) ?_
   refine DL_cy rfl rfl (op_neq (r := false) _ _ rfl rfl rfl) ?_
   refine DL_c (op_pick (b := false) _ _ _ rfl rfl) ?_
   refine DL_nil (hK18 _ ?_)
   clear hK18; try clear K18
   refine D_cF rfl rfl ?_
   refine D_skip (hK17 _ ?_)
   clear hK17; try clear K17
   refine D_seq fun K19 hK19 => ?_
   refine D_region ?_
   refine DL_c (op_mv _ (rfl : _ = AV.fp _ _)) ?_
   refine DL_c (op_mv _ (rfl : _ = AV.v (.int _ _))) ?_
   refine DL_c (op_mv _ (rfl : _ = AV.sl _ _)) ?_
   refine DL_c (op_build _ inferInstance rfl (by exact (rfl : _ = some [_, _]))) ?_
   refine DL_c (op_box (98, 0) _ rfl rfl) ?_
   refine DL_c (op_mf _ _ (rfl : _ = [_]) (rfl : _ = [])) ?_
   refine DL_c (op_callP inferInstance [((3, 9), (98, 0)), ((4, 8), (60, 0))] ?_ (hF) ⟨⟨rfl, ⟨_, rfl, .box rfl (lv_cons .sl (lv_cons .v lv_nil))⟩, rfl⟩, trivial⟩ ⟨rfl, rfl, trivial⟩ (by kernel_rfl)) ?_
   ·repeat' (first | exact argsR_nil | refine argsR_cons ?_ ?_ | exact Lv.v | exact Lv.fp | exact lvPr rfl | refine Lv.fn rfl ?_ rfl ?_ | exact lv_nil | refine lv_cons ?_ ?_)
   refine DL_c (op_mv _ (rfl : _ = AV.tup _)) ?_
   refine DL_c (op_ext _ rfl (rfl : _ = some (AV.sl _ _))) ?_
   refine DL_c (op_ext _ rfl (rfl : _ = some (AV.sl _ _))) ?_
   refine DL_c (op_ext _ rfl (rfl : _ = some (AV.v (.int _ _)))) ?_
   refine DL_c (op_as _ (rfl : _ = AV.sl _ _)) ?_
   refine DL_c (op_as _ (rfl : _ = AV.sl _ _)) ?_
   refine DL_c (op_as _ (rfl : _ = AV.v (.int _ _))) ?_
   refine DL_nil (hK19 _ ?_)
   clear hK19; try clear K19
   refine D_seq fun K20 hK20 => ?_
   refine D_le (σ' := mkStI 186 [(11, _), (13, _), (14, _), (18, _), (20, _), (22, _)] [] [] []) (by
    refine Le.mkJ [] [] rfl ?_ ?_ trivial trivial ?_
    ·exact ⟨(iV rfl), (iS rfl), (iS rfl), (iF rfl), (iS rfl), (iV rfl), trivial⟩
    ·exact trivial
    ·kernel_rfl) ?_
   refine D_region ?_
   refine DL_c (op_mv _ (rfl : _ = AV.fp _ _)) ?_
   refine DL_c (op_mv _ (rfl : _ = AV.sl _ _)) ?_
   refine DL_c (op_mv _ (rfl : _ = AV.v (.int _ _))) ?_
   refine DL_c (op_ixS _ _ inferInstance rfl rfl h rfl (by omega) (by simp; omega) (Nat.mul_one _)) ?_
   refine DL_c (op_ldF _ inferInstance rfl (by exact nsl_get _ _ (by omega)) rfl) ?_
   refine DL_c (op_mv _ (rfl : _ = AV.sl _ _)) ?_
   refine DL_c (op_callH inferInstance (by repeat' (first | exact argsLv_nil | refine argsLv_cons ?_ ?_ | exact Lv.v | exact Lv.sl | exact Lv.fp)) (hM2) rfl rfl) ?_
   refine DL_c (op_as _ (rfl : _ = AV.sl _ _)) ?_
   refine DL_nil (hK20 _ ?_)
   clear hK20; try clear K20
   refine D_seq fun K21 hK21 => ?_
   refine D_seq fun K22 hK22 => ?_
   refine D_region ?_
   refine DL_c (op_mv _ (rfl : _ = AV.v (.int _ _))) ?_
   refine DL_c (op_neq (r := false) _ _ rfl rfl rfl) ?_
   refine DL_c (op_mv _ (rfl : _ = AV.v (.bool _))) ?_
   refine DL_cy rfl rfl (op_mv _ (rfl : _ = AV.sl _ _)) ?_
   refine DL_cy rfl rfl (op_lenS _ inferInstance rfl) ?_
   refine DL_cy rfl rfl (op_mv _ (rfl : _ = AV.sl _ _)) ?_
   refine DL_cy rfl rfl (op_lenS _ inferInstance rfl) ?_
   refine DL_cy rfl rfl (op_neq (r := false) _ _ rfl rfl (by rw [bne_eq_false_iff_eq]; omega)) ?_
   refine DL_c (op_pick (b := false) _ _ _ rfl rfl) ?_
   refine DL_nil (hK22 _ ?_)
   clear hK22; try clear K22
   refine D_cF rfl rfl ?_
   refine D_skip (hK21 _ ?_)
   clear hK21; try clear K21
   refine D_seq fun K23 hK23 => ?_
   refine D_seq fun K24 hK24 => ?_
   refine D_le (σ' := mkStI 186 [(13, _), (20, _), (23, _)] [] [] []) (by
    refine Le.mkJ [] [] rfl ?_ ?_ trivial trivial ?_
    ·exact ⟨(iS rfl), (iS rfl), (iS rfl), trivial⟩
    ·exact trivial
    ·kernel_rfl) ?_
   refine D_region ?_
   refine DL_c (op_as _ (rfl : _ = AV.v (.int _ _))) ?_
   refine DL_nil (hK24 _ ?_)
   clear hK24; try clear K24
   refine D_block ?_
   refine D_loopL (α := Nat) (fun i => i ≤ AL.length) 186 [(13, _), (20, _), (23, _)] [] (fun i => [(24, .v (.int .i64 (i : Int)))]) (fun i => []) [] [] (fun i => AL.length - i) 0 ?_ (by
    refine Le.mkJ [] [] rfl ?_ ?_ trivial trivial ?_
    ·exact ⟨(iS rfl), (iS rfl), (iS rfl), (lvI (by rfl)), trivial⟩
    ·exact trivial
    ·kernel_rfl) ?_
   ·omega
   intro i hi
   refine D_seq fun K25 hK25 => ?_
   refine D_seq fun K26 hK26 => ?_
   refine D_region ?_
   refine DL_c (op_mv _ (rfl : _ = AV.v (.int _ _))) ?_
   refine DL_c (op_mv _ (rfl : _ = AV.sl _ _)) ?_
   refine DL_c (op_lenS _ inferInstance rfl) ?_
   refine DL_c (op_lss _ _ rfl rfl rfl) ?_
   refine DL_nil (hK26 _ ?_)
   clear hK26; try clear K26
   refine D_splitC rfl (fun hc123 => ?_) (fun hc123 => ?_)
   ·skip
    have hav := hrn.av i (by omega)
    have has := hrn.asl i (by omega)
    have hhit := hrn.hit i (by omega)
    have hsus := hrn.sus i (by omega)
    have ha2 := hA2 i
    have hdi := hpm.at_lt hav
    refine D_skip (hK25 _ ?_)
    clear hK25; try clear K25
    refine D_seq fun K27 hK27 => ?_
    refine D_block ?_
    refine D_seq fun K28 hK28 => ?_
    refine D_region ?_
    refine DL_c (op_asN (25, 0) _ 3 1 rfl rfl) ?_
    refine DL_nil (hK28 _ ?_)
    clear hK28; try clear K28
    refine D_seq fun K29 hK29 => ?_
    refine D_seq fun K30 hK30 => ?_
    refine D_region ?_
    refine DL_c (op_as _ (rfl : _ = AV.v (.int _ _))) ?_
    refine DL_nil (hK30 _ ?_)
    clear hK30; try clear K30
    refine D_block ?_
    refine D_loopL (α := Nat) (fun j => j ≤ (AL.getD i (0, [])).2.length) 186 [(13, _), (20, _), (23, _), (24, _)] [] (fun j => [(26, .v (.int .i64 (j : Int))), (25, .ref (25, 0) 0 j)]) (fun j => [((25, 0), .row 3 1 (isl (wnt to (AL.getD i (0, [])).2 j)))]) [] [] (fun j => (AL.getD i (0, [])).2.length - j) 0 ?_ (by
     refine Le.mkJ [] [] rfl ?_ ?_ trivial trivial ?_
     ·exact ⟨(iS rfl), (iS rfl), (iS rfl), (iV rfl), (lvI (by rfl)), (lvRr rfl (by rfl)), trivial⟩
     ·exact ⟨(obR rfl rfl rfl (by rfl)), trivial⟩
     ·kernel_rfl) ?_
    ·omega
    intro j hj
    have hwl : (wnt to (AL.getD i (0, [])).2 j).length = j := by unfold wnt; rw [List.length_map, List.length_take]; omega
    refine D_seq fun K31 hK31 => ?_
    refine D_seq fun K32 hK32 => ?_
    refine D_region ?_
    refine DL_c (op_mv _ (rfl : _ = AV.v (.int _ _))) ?_
    refine DL_c (op_mv _ (rfl : _ = AV.sl _ _)) ?_
    refine DL_c (op_mv _ (rfl : _ = AV.v (.int _ _))) ?_
    refine DL_c (op_ixS _ _ inferInstance rfl rfl _ rfl (by omega) (by (simp only [isl_len, bsl_len, psl_len, mrows_len, nsl_len, ws_len, List.length_map, ul_len, psl_len, isl_len, nrows_len, mmap_len, smap_len, dcl_len, blR_len, prL_len, stK_len, inh1_len, st0_len, status32_len, ren32_len, tS_len]; omega)) (by rfl)) ?_
    refine DL_c (op_fldF _ inferInstance rfl rfl) ?_
    refine DL_c (op_ldF _ inferInstance rfl (by exact blR_get1 _ _ (by omega)) rfl) ?_
    refine DL_c (op_lenS _ inferInstance rfl) ?_
    refine DL_c (op_lss _ _ rfl rfl rfl) ?_
    refine DL_nil (hK32 _ ?_)
    clear hK32; try clear K32
    refine D_splitC rfl (fun hc133 => ?_) (fun hc133 => ?_)
    ·skip
     have hun := has _ (getD_mem (show j < (AL.getD i (0, [])).2.length by omega))
     have hws := wnt_succ (to := to) (show j < (AL.getD i (0, [])).2.length by omega)
     have hdu := hpm.at_lt hun
     refine D_skip (hK31 _ ?_)
     clear hK31; try clear K31
     refine D_seq fun K33 hK33 => ?_
     refine D_block ?_
     refine D_region ?_
     refine DL_c (op_mv _ (rfl : _ = AV.ref _ _ _)) ?_
     refine DL_c (op_mv _ (rfl : _ = AV.sl _ _)) ?_
     refine DL_c (op_mv _ (rfl : _ = AV.sl _ _)) ?_
     refine DL_c (op_mv _ (rfl : _ = AV.v (.int _ _))) ?_
     refine DL_c (op_ixS _ _ inferInstance rfl rfl _ rfl (by omega) (by (simp only [isl_len, bsl_len, psl_len, mrows_len, nsl_len, ws_len, List.length_map, ul_len, psl_len, isl_len, nrows_len, mmap_len, smap_len, dcl_len, blR_len, prL_len, stK_len, inh1_len, st0_len, status32_len, ren32_len, tS_len]; omega)) (by rfl)) ?_
     refine DL_c (op_fldF _ inferInstance rfl rfl) ?_
     refine DL_c (op_ldF _ inferInstance rfl (by exact blR_get1 _ _ (by omega)) rfl) ?_
     refine DL_c (op_mv _ (rfl : _ = AV.v (.int _ _))) ?_
     refine DL_c (op_ixS _ _ inferInstance rfl rfl _ rfl (by omega) (by (simp only [isl_len, bsl_len, psl_len, mrows_len, nsl_len, ws_len, List.length_map, ul_len, psl_len, isl_len, nrows_len, mmap_len, smap_len, dcl_len, blR_len, prL_len, stK_len, inh1_len, st0_len, status32_len, ren32_len, tS_len]; omega)) (by exact Nat.mul_one _)) ?_
     refine DL_c (op_ldF _ inferInstance rfl (by exact nsl_get _ _ (by omega)) rfl) ?_
     refine DL_c (op_ixS _ _ inferInstance rfl rfl ((AL.getD i (0, [])).2.getD j 0) rfl (by omega) (by rw [nsl_len]; omega) (Nat.mul_one _)) ?_
     refine DL_c (op_ldF _ inferInstance rfl (by exact nsl_get _ _ (by omega)) rfl) ?_
     refine DL_c (op_bsF _ _ inferInstance rfl (by rfl) (by simp <;> rfl) (by decide) rfl) ?_
     refine DL_c (op_ap (149, 0) _ _ inferInstance rfl rfl (by (simp only [isl_len, bsl_len, psl_len, mrows_len, nsl_len, ws_len, List.length_map, ul_len, psl_len, isl_len, nrows_len, mmap_len, smap_len, dcl_len, blR_len, prL_len, stK_len, inh1_len, st0_len, status32_len, ren32_len, tS_len]; omega)) (by (refine .sl ?_; (simp [isl]; done))) (by omega) rfl (rfl) (rfl)) ?_
     refine DL_c (op_as _ (rfl : _ = AV.ref _ _ _)) ?_
     refine DL_nil (hK33 _ ?_)
     clear hK33; try clear K33
     refine D_le (σ' := mkStI 186 [(13, _), (20, _), (23, _), (24, _), (25, _), (26, _)] [((149, 0), _)] [] []) (by
      refine Le.mkJ [] [] rfl ?_ ?_ trivial trivial ?_
      ·exact ⟨(iS rfl), (iS rfl), (iS rfl), (iV rfl), (iR rfl), (iV rfl), trivial⟩
      ·exact ⟨(obE rfl rfl rfl), trivial⟩
      ·kernel_rfl) ?_
     refine D_region ?_
     refine DL_c (op_mv _ (rfl : _ = AV.v (.int _ _))) ?_
     refine DL_c (op_add _ _ rfl rfl (i64w (by omega))) ?_
     refine DL_c (op_as _ (rfl : _ = AV.v (.int _ _))) ?_
     refine DL_nil ?_
     refine ⟨j + 1, ?_, ?_, ?_⟩
     ·omega
     ·skip
      refine Le.mkJ [((25, 0), (149, 0))] [] rfl ?_ ?_ trivial trivial ?_
      ·exact ⟨(by repeat' (exact Lv.sl)), (by repeat' (exact Lv.sl)), (by repeat' (exact Lv.sl)), (by repeat' (exact Lv.v)), (lvI (by rfl)), (lvRr rfl (by rfl)), trivial⟩
      ·exact ⟨(obR rfl rfl rfl (by rw [hws]; simp [isl])), trivial⟩
      ·kernel_rfl
     ·omega
    ·skip
     have hwf : wnt to (AL.getD i (0, [])).2 j = (AL.getD i (0, [])).2.map fun u => ((to.getD u 0 : Nat) : Int) := by unfold wnt; rw [List.take_of_length_le (by omega)]
     refine D_exit ?_
     refine id (hK29 _ ?_)
     clear hK29; try clear K29
     refine D_seq fun K34 hK34 => ?_
     refine D_le (Le.frzS (ys := isl (wnt to (AL.getD i (0, [])).2 j)) 25 rfl rfl rfl (by rw [List.drop_zero, Nat.mul_one]; exact List.take_of_length_le (by rw [isl_len, hwl]; omega)) (by rw [isl_len, hwl]; omega)) ?_
     refine D_region ?_
     refine DL_c (op_as _ (rfl : _ = AV.v (.bool _))) ?_
     refine DL_nil (hK34 _ ?_)
     clear hK34; try clear K34
     refine D_seq fun K35 hK35 => ?_
     refine D_seq fun K36 hK36 => ?_
     refine D_region ?_
     refine DL_c (op_as _ (rfl : _ = AV.v (.int _ _))) ?_
     refine DL_nil (hK36 _ ?_)
     clear hK36; try clear K36
     refine D_block ?_
     refine D_loopL (α := Nat × Bool) (fun z => z.1 ≤ BL.length ∧ (z.2 = true ↔ ∃ q, q < z.1 ∧ (BL.getD q (0, [])).1 = to.getD (AL.getD i (0, [])).1 0)) 186 [(13, _), (20, _), (23, _), (24, _), (25, _)] [] (fun z => [(28, .v (.int .i64 (z.1 : Int))), (27, .v (.bool z.2))]) (fun z => []) [] [] (fun z => BL.length - z.1) (0, false) ?_ (by
      refine Le.mkJ [] [] rfl ?_ ?_ trivial trivial ?_
      ·exact ⟨(iS rfl), (iS rfl), (iS rfl), (iV rfl), (iS rfl), (lvI (by rfl)), (lvB (by rfl)), trivial⟩
      ·exact trivial
      ·kernel_rfl) ?_
     ·exact ⟨Nat.zero_le _, by simp⟩
     intro z hz
     obtain ⟨hz1, hz2⟩ := hz
     refine D_seq fun K37 hK37 => ?_
     refine D_seq fun K38 hK38 => ?_
     refine D_region ?_
     refine DL_c (op_mv _ (rfl : _ = AV.v (.int _ _))) ?_
     refine DL_c (op_mv _ (rfl : _ = AV.sl _ _)) ?_
     refine DL_c (op_lenS _ inferInstance rfl) ?_
     refine DL_c (op_lss _ _ rfl rfl rfl) ?_
     refine DL_nil (hK38 _ ?_)
     clear hK38; try clear K38
     refine D_splitC rfl (fun hc153 => ?_) (fun hc153 => ?_)
     ·skip
      have hb2 := hB2 z.1
      refine D_skip (hK37 _ ?_)
      clear hK37; try clear K37
      refine D_seq fun K39 hK39 => ?_
      refine D_block ?_
      refine D_le (σ' := mkStI 186 [(13, _), (20, _), (23, _), (24, _), (25, _), (27, _), (28, _)] [] [] []) (by
       refine Le.mkJ [] [] rfl ?_ ?_ trivial trivial ?_
       ·exact ⟨(iS rfl), (iS rfl), (iS rfl), (iV rfl), (iS rfl), (iV rfl), (iV rfl), trivial⟩
       ·exact trivial
       ·kernel_rfl) ?_
      refine D_anyL 27 [156, 157, 158, 159, 160, 161, 162, 163, 164, 165, 166, 167, 168, 169, 170, 171, 172, 173, 174, 175, 176, 177, 178, 179, 180, 181, 182] [] (by kernel_rfl) (by kernel_rfl) rfl (nodupO_iff rfl) (rfl : _ = [_, _, _, _, _, _, _, _, _, _, _, _, _, _, _, _, _, _, _, _, _, _, _, _, _, _, _]) (rfl : _ = [_]) ?_
      refine any_c (_, []) (fun τ => op_mv _ (rfl : _ = AV.v (.bool _))) ?_
      refine any_n (rfl : _ = [_]) ?_
      refine any_c (_, []) (fun τ => op_mv _ (rfl : _ = AV.v (.bool _))) ?_
      refine any_caseC (fun hg157 => ?_) (fun hg157 => ?_)
      ·skip
       refine any_n (rfl : _ = [_, _]) ?_
       refine any_cn rfl (fun τ => rfl) (by decide) ?_
       refine any_n (rfl : _ = [_, _, _]) ?_
       refine any_cn rfl (fun τ => rfl) (by decide) ?_
       refine any_n (rfl : _ = [_, _, _, _]) ?_
       refine any_cn rfl (fun τ => rfl) (by decide) ?_
       refine any_n (rfl : _ = [_, _, _, _, _]) ?_
       refine any_cn rfl (fun τ => rfl) (by decide) ?_
       refine any_n (rfl : _ = [_, _, _, _, _, _]) ?_
       refine any_cn rfl (fun τ => rfl) (by decide) ?_
       refine any_n (rfl : _ = [_, _, _, _, _, _, _]) ?_
       refine any_cn rfl (fun τ => rfl) (by decide) ?_
       refine any_n (rfl : _ = [_, _, _, _, _, _, _, _]) ?_
       refine any_cn rfl (fun τ => rfl) (by decide) ?_
       refine any_n (rfl : _ = [_, _, _, _, _, _, _, _, _]) ?_
       refine any_cn rfl (fun τ => rfl) (by decide) ?_
       refine any_n (rfl : _ = [_, _, _, _, _, _, _, _, _, _]) ?_
       refine any_cn rfl (fun τ => rfl) (by decide) ?_
       refine any_n (rfl : _ = [_, _, _, _, _, _, _, _, _, _, _]) ?_
       refine any_cn rfl (fun τ => rfl) (by decide) ?_
       refine any_n (rfl : _ = [_, _, _, _, _, _, _, _, _, _, _, _]) ?_
       refine any_cn rfl (fun τ => rfl) (by decide) ?_
       refine any_n (rfl : _ = [_, _, _, _, _, _, _, _, _, _, _, _, _]) ?_
       refine any_cn rfl (fun τ => rfl) (by decide) ?_
       refine any_n (rfl : _ = [_, _, _, _, _, _, _, _, _, _, _, _, _, _]) ?_
       refine any_cn rfl (fun τ => rfl) (by decide) ?_
       refine any_n (rfl : _ = [_, _, _, _, _, _, _, _, _, _, _, _, _, _, _]) ?_
       refine any_cn rfl (fun τ => rfl) (by decide) ?_
       refine any_n (rfl : _ = [_, _, _, _, _, _, _, _, _, _, _, _, _, _, _, _]) ?_
       refine any_cn rfl (fun τ => rfl) (by decide) ?_
       refine any_n (rfl : _ = [_, _, _, _, _, _, _, _, _, _, _, _, _, _, _, _, _]) ?_
       refine any_cu rfl (fun τ => rfl) ?_
       refine any_n (rfl : _ = [_, _, _, _, _, _, _, _, _, _, _, _, _, _, _, _, _, _]) ?_
       refine any_cu rfl (fun τ => rfl) ?_
       refine any_n (rfl : _ = [_, _, _, _, _, _, _, _, _, _, _, _, _, _, _, _, _, _, _]) ?_
       refine any_cu rfl (fun τ => rfl) ?_
       refine any_n (rfl : _ = [_, _, _, _, _, _, _, _, _, _, _, _, _, _, _, _, _, _, _, _]) ?_
       refine any_cu rfl (fun τ => rfl) ?_
       refine any_n (rfl : _ = [_, _, _, _, _, _, _, _, _, _, _, _, _, _, _, _, _, _, _, _, _]) ?_
       refine any_cu rfl (fun τ => rfl) ?_
       refine any_n (rfl : _ = [_, _, _, _, _, _, _, _, _, _, _, _, _, _, _, _, _, _, _, _, _, _]) ?_
       refine any_cu rfl (fun τ => rfl) ?_
       refine any_n (rfl : _ = [_, _, _, _, _, _, _, _, _, _, _, _, _, _, _, _, _, _, _, _, _, _, _]) ?_
       refine any_cu rfl (fun τ => rfl) ?_
       refine any_n (rfl : _ = [_, _, _, _, _, _, _, _, _, _, _, _, _, _, _, _, _, _, _, _, _, _, _, _]) ?_
       refine any_cu rfl (fun τ => rfl) ?_
       refine any_n (rfl : _ = [_, _, _, _, _, _, _, _, _, _, _, _, _, _, _, _, _, _, _, _, _, _, _, _, _]) ?_
       refine any_cn rfl (fun τ => rfl) (by decide) ?_
       refine any_n (rfl : _ = [_, _, _, _, _, _, _, _, _, _, _, _, _, _, _, _, _, _, _, _, _, _, _, _, _, _]) ?_
       refine any_c (_, []) (fun τ => op_pick _ _ _ rfl (rfl : _ = AV.v (.bool _))) ?_
       refine any_n (rfl : _ = [_, _, _, _, _, _, _, _, _, _, _, _, _, _, _, _, _, _, _, _, _, _, _, _, _, _, _]) ?_
       refine any_end ⟨rfl, ?_⟩
       refine DL_c (op_as _ (rfl : _ = AV.v (.bool _))) ?_
       refine DL_nil (hK39 _ ?_)
       clear hK39; try clear K39
       refine D_le (σ' := mkStI 186 [(13, _), (20, _), (23, _), (24, _), (25, _), (27, _), (28, _)] [] [] []) (by
        refine Le.mkJ [] [] rfl ?_ ?_ trivial trivial ?_
        ·exact ⟨(iS rfl), (iS rfl), (iS rfl), (iV rfl), (iS rfl), (iV rfl), (iV rfl), trivial⟩
        ·exact trivial
        ·kernel_rfl) ?_
       refine D_region ?_
       refine DL_c (op_mv _ (rfl : _ = AV.v (.int _ _))) ?_
       refine DL_c (op_add _ _ rfl rfl (i64w (by omega))) ?_
       refine DL_c (op_as _ (rfl : _ = AV.v (.int _ _))) ?_
       refine DL_nil ?_
       refine ⟨(z.1 + 1, true), ?_, ?_, ?_⟩
       ·exact ⟨by simp only; omega, by simp only; exact ⟨fun _ => (by obtain ⟨q, h4, h5⟩ := hz2.1 hg157; exact ⟨q, by omega, h5⟩), fun _ => trivial⟩⟩
       ·skip
        refine Le.mkJ [] [] rfl ?_ ?_ trivial trivial ?_
        ·exact ⟨(iS rfl), (iS rfl), (iS rfl), (iV rfl), (iS rfl), (lvI (by rfl)), (lvB (by rfl)), trivial⟩
        ·exact trivial
        ·kernel_rfl
       ·simp only; omega
      ·skip
       refine any_n (rfl : _ = [_, _]) ?_
       refine any_cy (_, []) rfl (fun τ => rfl) (fun τ => op_mv _ (rfl : _ = AV.sl _ _)) ?_
       refine any_n (rfl : _ = [_, _, _]) ?_
       refine any_cy (_, []) rfl (fun τ => rfl) (fun τ => op_mv _ (rfl : _ = AV.v (.int _ _))) ?_
       refine any_n (rfl : _ = [_, _, _, _]) ?_
       refine any_cy (_, []) rfl (fun τ => rfl) (fun τ => op_ixS _ _ inferInstance rfl rfl _ rfl (by omega) (by (simp only [isl_len, bsl_len, psl_len, mrows_len, nsl_len, ws_len, List.length_map, ul_len, psl_len, isl_len, nrows_len, mmap_len, smap_len, dcl_len, blR_len, prL_len, stK_len, inh1_len, st0_len, status32_len, ren32_len, tS_len]; omega)) (by rfl)) ?_
       refine any_n (rfl : _ = [_, _, _, _, _]) ?_
       refine any_cy (_, []) rfl (fun τ => rfl) (fun τ => op_fldF _ inferInstance rfl rfl) ?_
       refine any_n (rfl : _ = [_, _, _, _, _, _]) ?_
       refine any_cy (_, []) rfl (fun τ => rfl) (fun τ => op_ldF _ inferInstance rfl (by exact blR_get0 _ _ (by omega)) rfl) ?_
       refine any_n (rfl : _ = [_, _, _, _, _, _, _]) ?_
       refine any_cy (_, []) rfl (fun τ => rfl) (fun τ => op_mv _ (rfl : _ = AV.sl _ _)) ?_
       refine any_n (rfl : _ = [_, _, _, _, _, _, _, _]) ?_
       refine any_cy (_, []) rfl (fun τ => rfl) (fun τ => op_mv _ (rfl : _ = AV.sl _ _)) ?_
       refine any_n (rfl : _ = [_, _, _, _, _, _, _, _, _]) ?_
       refine any_cy (_, []) rfl (fun τ => rfl) (fun τ => op_mv _ (rfl : _ = AV.v (.int _ _))) ?_
       refine any_n (rfl : _ = [_, _, _, _, _, _, _, _, _, _]) ?_
       refine any_cy (_, []) rfl (fun τ => rfl) (fun τ => op_ixS _ _ inferInstance rfl rfl _ rfl (by omega) (by (simp only [isl_len, bsl_len, psl_len, mrows_len, nsl_len, ws_len, List.length_map, ul_len, psl_len, isl_len, nrows_len, mmap_len, smap_len, dcl_len, blR_len, prL_len, stK_len, inh1_len, st0_len, status32_len, ren32_len, tS_len]; omega)) (by rfl)) ?_
       refine any_n (rfl : _ = [_, _, _, _, _, _, _, _, _, _, _]) ?_
       refine any_cy (_, []) rfl (fun τ => rfl) (fun τ => op_fldF _ inferInstance rfl rfl) ?_
       refine any_n (rfl : _ = [_, _, _, _, _, _, _, _, _, _, _, _]) ?_
       refine any_cy (_, []) rfl (fun τ => rfl) (fun τ => op_ldF _ inferInstance rfl (by exact blR_get0 _ _ (by omega)) rfl) ?_
       refine any_n (rfl : _ = [_, _, _, _, _, _, _, _, _, _, _, _, _]) ?_
       refine any_cy (_, []) rfl (fun τ => rfl) (fun τ => op_ixS _ _ inferInstance rfl rfl (AL.getD i (0, [])).1 rfl (by omega) (by simp; omega) (Nat.mul_one _)) ?_
       refine any_n (rfl : _ = [_, _, _, _, _, _, _, _, _, _, _, _, _, _]) ?_
       refine any_cy (_, []) rfl (fun τ => rfl) (fun τ => op_ldF _ inferInstance rfl (by exact nsl_get _ _ (by omega)) rfl) ?_
       refine any_n (rfl : _ = [_, _, _, _, _, _, _, _, _, _, _, _, _, _, _]) ?_
       refine any_cy (_, []) rfl (fun τ => rfl) (fun τ => op_eql _ _ rfl rfl rfl) ?_
       refine any_n (rfl : _ = [_, _, _, _, _, _, _, _, _, _, _, _, _, _, _, _]) ?_
       refine any_cy (_, []) rfl (fun τ => rfl) (fun τ => op_mv _ (rfl : _ = AV.v (.bool _))) ?_
       refine any_caseC (fun hg172 => ?_) (fun hg172 => ?_)
       ·skip
        have hse := hsus z.1 (by omega) (by omega)
        have hsm := same_spec (BL.getD z.1 (0, [])).2.length j ((BL.getD z.1 (0, [])).2.map fun (x : Nat) => (x : Int)) (ssrt (wnt to (AL.getD i (0, [])).2 j)) (by simp) (by rw [ssrt_len, hwl]) (by omega) (by omega)
        rw [decide_eq_true (by rw [hse, hwf])] at hsm
        refine any_n (rfl : _ = [_, _, _, _, _, _, _, _, _, _, _, _, _, _, _, _, _]) ?_
        refine any_cy (_, []) rfl (fun τ => rfl) (fun τ => op_mv _ (rfl : _ = AV.sl _ _)) ?_
        refine any_n (rfl : _ = [_, _, _, _, _, _, _, _, _, _, _, _, _, _, _, _, _, _]) ?_
        refine any_cy (_, []) rfl (fun τ => rfl) (fun τ => op_mv _ (rfl : _ = AV.v (.int _ _))) ?_
        refine any_n (rfl : _ = [_, _, _, _, _, _, _, _, _, _, _, _, _, _, _, _, _, _, _]) ?_
        refine any_cy (_, []) rfl (fun τ => rfl) (fun τ => op_ixS _ _ inferInstance rfl rfl _ rfl (by omega) (by (simp only [isl_len, bsl_len, psl_len, mrows_len, nsl_len, ws_len, List.length_map, ul_len, psl_len, isl_len, nrows_len, mmap_len, smap_len, dcl_len, blR_len, prL_len, stK_len, inh1_len, st0_len, status32_len, ren32_len, tS_len]; omega)) (by rfl)) ?_
        refine any_n (rfl : _ = [_, _, _, _, _, _, _, _, _, _, _, _, _, _, _, _, _, _, _, _]) ?_
        refine any_cy (_, []) rfl (fun τ => rfl) (fun τ => op_fldF _ inferInstance rfl rfl) ?_
        refine any_n (rfl : _ = [_, _, _, _, _, _, _, _, _, _, _, _, _, _, _, _, _, _, _, _, _]) ?_
        refine any_cy (_, []) rfl (fun τ => rfl) (fun τ => op_ldF _ inferInstance rfl (by exact blR_get1 _ _ (by omega)) rfl) ?_
        refine any_n (rfl : _ = [_, _, _, _, _, _, _, _, _, _, _, _, _, _, _, _, _, _, _, _, _, _]) ?_
        refine any_cy (_, []) rfl (fun τ => rfl) (fun τ => op_mv _ (rfl : _ = AV.sl _ _)) ?_
        refine any_n (rfl : _ = [_, _, _, _, _, _, _, _, _, _, _, _, _, _, _, _, _, _, _, _, _, _, _]) ?_
        refine any_cy (_, []) rfl (fun τ => rfl) (fun τ => (op_callH inferInstance (by repeat' (first | exact argsLv_nil | refine argsLv_cons ?_ ?_ | exact Lv.sl)) (sorted_spec j (wnt to (AL.getD i (0, [])).2 j) hwl (by omega)) rfl rfl)) ?_
        refine any_n (rfl : _ = [_, _, _, _, _, _, _, _, _, _, _, _, _, _, _, _, _, _, _, _, _, _, _, _]) ?_
        refine any_cy (_, []) rfl (fun τ => rfl) (fun τ => (op_callH inferInstance (by repeat' (first | exact argsLv_nil | refine argsLv_cons ?_ ?_ | exact Lv.sl)) (hsm) rfl rfl)) ?_
        refine any_n (rfl : _ = [_, _, _, _, _, _, _, _, _, _, _, _, _, _, _, _, _, _, _, _, _, _, _, _, _]) ?_
        refine any_cy (_, []) rfl (fun τ => rfl) (fun τ => op_pick _ _ _ rfl (rfl : _ = AV.v (.bool _))) ?_
        refine any_n (rfl : _ = [_, _, _, _, _, _, _, _, _, _, _, _, _, _, _, _, _, _, _, _, _, _, _, _, _, _]) ?_
        refine any_c (_, []) (fun τ => op_pick _ _ _ rfl (rfl : _ = AV.v (.bool _))) ?_
        refine any_n (rfl : _ = [_, _, _, _, _, _, _, _, _, _, _, _, _, _, _, _, _, _, _, _, _, _, _, _, _, _, _]) ?_
        refine any_end ⟨rfl, ?_⟩
        refine DL_c (op_as _ (rfl : _ = AV.v (.bool _))) ?_
        refine DL_nil (hK39 _ ?_)
        clear hK39; try clear K39
        refine D_le (σ' := mkStI 186 [(13, _), (20, _), (23, _), (24, _), (25, _), (27, _), (28, _)] [] [] []) (by
         refine Le.mkJ [] [] rfl ?_ ?_ trivial trivial ?_
         ·exact ⟨(iS rfl), (iS rfl), (iS rfl), (iV rfl), (iS rfl), (iV rfl), (iV rfl), trivial⟩
         ·exact trivial
         ·kernel_rfl) ?_
        refine D_region ?_
        refine DL_c (op_mv _ (rfl : _ = AV.v (.int _ _))) ?_
        refine DL_c (op_add _ _ rfl rfl (i64w (by omega))) ?_
        refine DL_c (op_as _ (rfl : _ = AV.v (.int _ _))) ?_
        refine DL_nil ?_
        refine ⟨(z.1 + 1, true), ?_, ?_, ?_⟩
        ·exact ⟨by simp only; omega, by simp only; exact ⟨fun _ => ⟨z.1, by omega, by omega⟩, fun _ => trivial⟩⟩
        ·skip
         refine Le.mkJ [] [] rfl ?_ ?_ trivial trivial ?_
         ·exact ⟨(iS rfl), (iS rfl), (iS rfl), (iV rfl), (iS rfl), (lvI (by rfl)), (lvB (by rfl)), trivial⟩
         ·exact trivial
         ·kernel_rfl
        ·simp only; omega
       ·skip
        refine any_n (rfl : _ = [_, _, _, _, _, _, _, _, _, _, _, _, _, _, _, _, _]) ?_
        refine any_cn rfl (fun τ => rfl) (by decide) ?_
        refine any_n (rfl : _ = [_, _, _, _, _, _, _, _, _, _, _, _, _, _, _, _, _, _]) ?_
        refine any_cn rfl (fun τ => rfl) (by decide) ?_
        refine any_n (rfl : _ = [_, _, _, _, _, _, _, _, _, _, _, _, _, _, _, _, _, _, _]) ?_
        refine any_cn rfl (fun τ => rfl) (by decide) ?_
        refine any_n (rfl : _ = [_, _, _, _, _, _, _, _, _, _, _, _, _, _, _, _, _, _, _, _]) ?_
        refine any_cn rfl (fun τ => rfl) (by decide) ?_
        refine any_n (rfl : _ = [_, _, _, _, _, _, _, _, _, _, _, _, _, _, _, _, _, _, _, _, _]) ?_
        refine any_cn rfl (fun τ => rfl) (by decide) ?_
        refine any_n (rfl : _ = [_, _, _, _, _, _, _, _, _, _, _, _, _, _, _, _, _, _, _, _, _, _]) ?_
        refine any_cn rfl (fun τ => rfl) (by decide) ?_
        refine any_n (rfl : _ = [_, _, _, _, _, _, _, _, _, _, _, _, _, _, _, _, _, _, _, _, _, _, _]) ?_
        refine any_cn rfl (fun τ => rfl) (by decide) ?_
        refine any_n (rfl : _ = [_, _, _, _, _, _, _, _, _, _, _, _, _, _, _, _, _, _, _, _, _, _, _, _]) ?_
        refine any_cn rfl (fun τ => rfl) (by decide) ?_
        refine any_n (rfl : _ = [_, _, _, _, _, _, _, _, _, _, _, _, _, _, _, _, _, _, _, _, _, _, _, _, _]) ?_
        refine any_cy (_, []) rfl (fun τ => rfl) (fun τ => op_pick _ _ _ rfl (rfl : _ = AV.v (.bool _))) ?_
        refine any_n (rfl : _ = [_, _, _, _, _, _, _, _, _, _, _, _, _, _, _, _, _, _, _, _, _, _, _, _, _, _]) ?_
        refine any_c (_, []) (fun τ => op_pick _ _ _ rfl (rfl : _ = AV.v (.bool _))) ?_
        refine any_n (rfl : _ = [_, _, _, _, _, _, _, _, _, _, _, _, _, _, _, _, _, _, _, _, _, _, _, _, _, _, _]) ?_
        refine any_end ⟨rfl, ?_⟩
        refine DL_c (op_as _ (rfl : _ = AV.v (.bool _))) ?_
        refine DL_nil (hK39 _ ?_)
        clear hK39; try clear K39
        refine D_le (σ' := mkStI 186 [(13, _), (20, _), (23, _), (24, _), (25, _), (27, _), (28, _)] [] [] []) (by
         refine Le.mkJ [] [] rfl ?_ ?_ trivial trivial ?_
         ·exact ⟨(iS rfl), (iS rfl), (iS rfl), (iV rfl), (iS rfl), (iV rfl), (iV rfl), trivial⟩
         ·exact trivial
         ·kernel_rfl) ?_
        refine D_region ?_
        refine DL_c (op_mv _ (rfl : _ = AV.v (.int _ _))) ?_
        refine DL_c (op_add _ _ rfl rfl (i64w (by omega))) ?_
        refine DL_c (op_as _ (rfl : _ = AV.v (.int _ _))) ?_
        refine DL_nil ?_
        refine ⟨(z.1 + 1, z.2), ?_, ?_, ?_⟩
        ·refine ⟨by simp only; omega, ?_⟩
         simp only
         rw [hz2]
         constructor
         ·rintro ⟨q, h4, h5⟩; exact ⟨q, by omega, h5⟩
         ·rintro ⟨q, h4, h5⟩
          by_cases hq : q = z.1
          ·subst hq; exact absurd (by omega) hg172
          ·exact ⟨q, by omega, h5⟩
        ·skip
         refine Le.mkJ [] [] rfl ?_ ?_ trivial trivial ?_
         ·exact ⟨(iS rfl), (iS rfl), (iS rfl), (iV rfl), (iS rfl), (lvI (by rfl)), (lvB (by exact hg157)), trivial⟩
         ·exact trivial
         ·kernel_rfl
        ·simp only; omega
     ·skip
      have hzt : z.2 = true := hz2.2 (by obtain ⟨q, h4, h5⟩ := hhit; exact ⟨q, by omega, h5⟩)
      refine D_exit ?_
      refine id (hK35 _ ?_)
      clear hK35; try clear K35
      refine D_seq fun K40 hK40 => ?_
      refine D_region ?_
      refine DL_c (op_mv _ (rfl : _ = AV.v (.bool _))) ?_
      refine DL_c (op_not _ rfl rfl) ?_
      refine DL_nil (hK40 _ ?_)
      clear hK40; try clear K40
      refine D_splitC rfl (fun hc184 => ?_) (fun hc184 => ?_)
      ·skip
       exact absurd  hc184 (by simp [hzt])
      ·skip
       refine D_skip (hK27 _ ?_)
       clear hK27; try clear K27
       refine D_region ?_
       refine DL_c (op_mv _ (rfl : _ = AV.v (.int _ _))) ?_
       refine DL_c (op_add _ _ rfl rfl (i64w (by omega))) ?_
       refine DL_c (op_as _ (rfl : _ = AV.v (.int _ _))) ?_
       refine DL_nil ?_
       refine ⟨i + 1, ?_, ?_, ?_⟩
       ·omega
       ·skip
        refine Le.mkJ [] [] rfl ?_ ?_ trivial trivial ?_
        ·exact ⟨(iS rfl), (iS rfl), (iS rfl), (lvI (by rfl)), trivial⟩
        ·exact trivial
        ·kernel_rfl
       ·omega
   ·skip
    refine D_exit ?_
    refine id (hK23 _ ?_)
    clear hK23; try clear K23
    refine D_seq fun K41 hK41 => ?_
    refine D_region ?_
    refine DL_c (op_callH inferInstance (by repeat' (exact argsLv_nil)) (lives33_spec) rfl rfl) ?_
    refine DL_c (op_as _ (rfl : _ = AV.v (.bool _))) ?_
    refine DL_nil (hK41 _ ?_)
    clear hK41; try clear K41
    refine D_ret ?_
    refine ret1 (.inr rfl) rfl (.tmp (rfl : _ = AV.v (.bool _))) (Le.out [] [] (lvB ?_) rfl rfl rfl trivial trivial)
    rfl
end Go.Proofs.Ytkbkmngbenohkaa
