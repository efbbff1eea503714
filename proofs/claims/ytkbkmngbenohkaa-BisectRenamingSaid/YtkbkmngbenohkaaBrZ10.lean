/- Part 10 of the texts that the walk leans on: the machine, the walks, the plain laws. -/
import Derived.Maps.RangeRun
import Derived.Shelf.Sort.Plain
import Derived.Sort.OwnSortedInts
import Derived.Test.YtkbkmngbenohkaaBrZ9
set_option linter.unusedSimpArgs false
set_option linter.unusedVariables false
namespace Go.Proofs.Ytkbkmngbenohkaa
open Go.RowKit

theorem suspects_spec (n : Nat) (E : Prs) (P A : List Nat) (hP : PW n E P) (v : Nat) (hv : v < n) (t : Nat) (ht : t < 18446744073709551616) :
  Spec Try.prog 101 (inSt [.fp 0 (gra n P A), .v (.int .i64 (v : Int)), .v (.int .u64 (t : Int))] []) (outSt (.v (.int .u64 ((susW n E t.testBit v : Nat) : Int))) []) := by
 have hn := hP.n64
 have hPl := hP.len
 refine Spec.ofN Try.func101 rfl Try.ntmps101 rfl ?_
 refine D_seq fun K1 hK1 => ?_
 refine D_region ?_
 refine DL_c (op_as _ (rfl : _ = AV.v (.int _ _))) ?_
 refine DL_nil (hK1 _ ?_)
 clear hK1; try clear K1
 refine D_seq fun K2 hK2 => ?_
 refine D_region ?_
 refine DL_c (op_mv _ (rfl : _ = AV.fp _ _)) ?_
 refine DL_c (op_nilc _ rfl) ?_
 refine DL_c (op_fldF _ inferInstance rfl rfl) ?_
 refine DL_c (op_ldF _ inferInstance rfl (rfl : _ = some (PV.sl n (ul P))) rfl) ?_
 refine DL_c (op_mv _ (rfl : _ = AV.v (.int _ _))) ?_
 refine DL_c (op_ixS _ _ inferInstance rfl rfl _ rfl (by omega) (by (simp only [isl_len, bsl_len, psl_len, mrows_len, nsl_len, ws_len, List.length_map, ul_len, psl_len, isl_len, nrows_len, prL_len]; omega)) (by exact Nat.mul_one _)) ?_
 refine DL_c (op_ldF _ inferInstance rfl (by exact ul_get _ _ (by omega)) rfl) ?_
 refine DL_c (op_mv _ (rfl : _ = AV.v (.int _ _))) ?_
 refine DL_c (op_and _ _ rfl rfl (u64_and _ _ (hP.lt v) ht)) ?_
 refine DL_c (op_as _ (rfl : _ = AV.v (.int _ _))) ?_
 refine DL_nil (hK2 _ ?_)
 clear hK2; try clear K2
 refine D_block ?_
 refine D_loopL (α := Nat) (fun w => SI n E t v P w) 45 [(0, _), (2, _)] [] (fun w => [(7, .v (.int .u64 (w : Int)))]) (fun w => []) [] [] (fun w => 64 - popc w) (P.getD v 0 &&& t) ?_ (by
  refine Le.mkJ [] [] rfl ?_ ?_ trivial trivial ?_
  ·exact ⟨(iF rfl), (iV rfl), (lvI (by rfl)), trivial⟩
  ·exact trivial
  ·kernel_rfl) ?_
 ·exact SI.start hP hv ht
 intro w hw
 have hwl := hw.lt
 have hel := els_len w
 refine D_block ?_
 refine D_seq fun K3 hK3 => ?_
 refine D_region ?_
 refine DL_c (op_mv _ (rfl : _ = AV.v (.int _ _))) ?_
 refine DL_c (op_as _ (rfl : _ = AV.v (.int _ _))) ?_
 refine DL_nil (hK3 _ ?_)
 clear hK3; try clear K3
 refine D_seq fun K4 hK4 => ?_
 refine D_seq fun K5 hK5 => ?_
 refine D_region ?_
 refine DL_c (op_mv _ (rfl : _ = AV.v (.int _ _))) ?_
 refine DL_c (op_callH inferInstance (by repeat' (first | exact argsLv_nil | refine argsLv_cons ?_ ?_ | exact Lv.v)) (list_spec w hwl) rfl rfl) ?_
 refine DL_c (op_lenS _ inferInstance rfl) ?_
 refine DL_c (op_mv _ (rfl : _ = AV.v (.int _ _))) ?_
 refine DL_nil (hK5 _ ?_)
 clear hK5; try clear K5
 refine D_block ?_
 refine D_loopL (α := Nat) (fun j => j ≤ (els w).length) 45 [(0, _), (2, _), (7, _), (22, _), (23, _)] [] (fun j => [(24, .v (.int .i64 (j : Int))), (8, .v (.int .u64 ((susF P t w (els w) j : Nat) : Int)))]) (fun j => []) [] [] (fun j => (els w).length - j) 0 ?_ (by
  refine Le.mkJ [] [] rfl ?_ ?_ trivial trivial ?_
  ·exact ⟨(iF rfl), (iV rfl), (iV rfl), (iS rfl), (iV rfl), (lvI (by rfl)), (lvI (by rw [susF_zero])), trivial⟩
  ·exact trivial
  ·kernel_rfl) ?_
 ·omega
 intro j hj
 refine D_seq fun K6 hK6 => ?_
 refine D_region ?_
 refine DL_c (op_lss _ _ rfl rfl rfl) ?_
 refine DL_nil (hK6 _ ?_)
 clear hK6; try clear K6
 refine D_seq fun K7 hK7 => ?_
 refine D_splitC rfl (fun hc25 => ?_) (fun hc25 => ?_)
 ·skip
  obtain ⟨u, hu⟩ : ∃ u, u = (els w).getD j 0 := ⟨_, rfl⟩
  have hum : u ∈ els w := hu ▸ getD_mem (by omega)
  have hun := hw.bit_lt hP (els_mem.1 hum).2
  have hsl := susF_lt (P := P) ht hwl (els w) j
  have hss := susF_succ (P := P) (t := t) (w := w) (l := els w) (j := j) (by omega)
  rw [← hu] at hss
  refine D_skip (hK7 _ ?_)
  clear hK7; try clear K7
  refine D_seq fun K8 hK8 => ?_
  refine D_block ?_
  refine D_seq fun K9 hK9 => ?_
  refine D_region ?_
  refine DL_c (op_ixS _ _ inferInstance rfl rfl _ rfl (by omega) (by (simp only [isl_len, bsl_len, psl_len, mrows_len, nsl_len, ws_len, List.length_map, ul_len, psl_len, isl_len, nrows_len, prL_len]; omega)) (by exact Nat.mul_one _)) ?_
  refine DL_c (op_ldF _ inferInstance rfl (by exact (nsl_get _ _ (by omega)).trans (by rw [← hu])) rfl) ?_
  refine DL_c (op_as _ (rfl : _ = AV.v (.int _ _))) ?_
  refine DL_nil (hK9 _ ?_)
  clear hK9; try clear K9
  refine D_region ?_
  refine DL_c (op_mv _ (rfl : _ = AV.v (.int _ _))) ?_
  refine DL_c (op_mv _ (rfl : _ = AV.fp _ _)) ?_
  refine DL_c (op_nilc _ rfl) ?_
  refine DL_c (op_fldF _ inferInstance rfl rfl) ?_
  refine DL_c (op_ldF _ inferInstance rfl (rfl : _ = some (PV.sl n (ul P))) rfl) ?_
  refine DL_c (op_mv _ (rfl : _ = AV.v (.int _ _))) ?_
  refine DL_c (op_ixS _ _ inferInstance rfl rfl u rfl (by omega) (by simp; omega) (Nat.mul_one _)) ?_
  refine DL_c (op_ldF _ inferInstance rfl (by exact ul_get _ _ (by omega)) rfl) ?_
  refine DL_c (op_mv _ (rfl : _ = AV.v (.int _ _))) ?_
  refine DL_c (op_and _ _ rfl rfl (u64_and _ _ (hP.lt u) ht)) ?_
  refine DL_c (op_or _ _ rfl rfl (u64_or _ _ hsl (and_bound ht))) ?_
  refine DL_c (op_as _ (rfl : _ = AV.v (.int _ _))) ?_
  refine DL_nil (hK8 _ ?_)
  clear hK8; try clear K8
  refine D_le (σ' := mkStI 45 [(0, _), (2, _), (7, _), (8, _), (22, _), (23, _), (24, _)] [] [] []) (by
   refine Le.mkJ [] [] rfl ?_ ?_ trivial trivial ?_
   ·exact ⟨(iF rfl), (iV rfl), (iV rfl), (iV rfl), (iS rfl), (iV rfl), (iV rfl), trivial⟩
   ·exact trivial
   ·kernel_rfl) ?_
  refine D_region ?_
  refine DL_c (op_add _ _ rfl rfl (i64w (by omega))) ?_
  refine DL_c (op_mv _ (rfl : _ = AV.v (.int _ _))) ?_
  refine DL_nil ?_
  refine ⟨j + 1, ?_, ?_, ?_⟩
  ·omega
  ·skip
   refine Le.mkJ [] [] rfl ?_ ?_ trivial trivial ?_
   ·exact ⟨(iF rfl), (iV rfl), (iV rfl), (iS rfl), (iV rfl), (lvI (by rfl)), (lvI (by omega)), trivial⟩
   ·exact trivial
   ·kernel_rfl
  ·omega
 ·skip
  obtain rfl : j = (els w).length := by omega
  have hnx := hw.next hP ht
  refine D_exit ?_
  refine id (hK4 _ ?_)
  clear hK4; try clear K4
  refine D_seq fun K10 hK10 => ?_
  refine D_seq fun K11 hK11 => ?_
  refine D_region ?_
  refine DL_c (op_mv _ (rfl : _ = AV.v (.int _ _))) ?_
  refine DL_c (op_mv _ (rfl : _ = AV.v (.int _ _))) ?_
  refine DL_c (op_eql _ _ rfl rfl rfl) ?_
  refine DL_nil (hK11 _ ?_)
  clear hK11; try clear K11
  refine D_splitC rfl (fun hc42 => ?_) (fun hc42 => ?_)
  ·skip
   have hfin := hw.fin hP hv (by omega)
   refine D_seq fun K12 hK12 => ?_
   refine D_region ?_
   refine DL_c (op_mv _ (rfl : _ = AV.v (.int _ _))) ?_
   refine DL_c (op_as _ (rfl : _ = AV.v (.int _ _))) ?_
   refine DL_nil (hK12 _ ?_)
   clear hK12; try clear K12
   refine D_ret ?_
   refine ret1 (.inr rfl) rfl (.tmp (rfl : _ = AV.v (.int _ _))) (Le.out [] [] (lvI ?_) rfl rfl rfl trivial trivial)
   rw [← hfin]
  ·skip
   refine D_skip (hK10 _ ?_)
   clear hK10; try clear K10
   refine D_region ?_
   refine DL_c (op_mv _ (rfl : _ = AV.v (.int _ _))) ?_
   refine DL_c (op_as _ (rfl : _ = AV.v (.int _ _))) ?_
   refine DL_nil ?_
   refine ⟨susF P t w (els w) (els w).length, ?_, ?_, ?_⟩
   ·exact hnx
   ·skip
    refine Le.mkJ [] [] rfl ?_ ?_ trivial trivial ?_
    ·exact ⟨(iF rfl), (iV rfl), (lvI (by rfl)), trivial⟩
    ·exact trivial
    ·kernel_rfl
   ·have h1 := popc_lt (w := w) (w' := susF P t w (els w) (els w).length) (fun c hc => by rw [susF_bit _ _ _ _ _ _ (Nat.le_refl _), hc]; rfl) hwl hnx.lt (by omega); have h2 := popc_le (susF P t w (els w) (els w).length); omega
/-- A row of blames. -/
def blR (L : List (Nat × List Nat)) : List PV := L.flatMap fun b => [.v (.int .i64 (b.1 : Int)), .sl b.2.length (nsl b.2)]
@[simp] theorem blR_len (L : List (Nat × List Nat)) : (blR L).length = L.length * 2 := by
 induction L with
 | nil => rfl
 | cons b L ih => simp only [blR, List.flatMap_cons, List.length_append, List.length_cons, List.length_nil] at ih ⊢; omega
theorem blR_app (L : List (Nat × List Nat)) (v : Nat) (s : List Nat) : blR L ++ [.v (.int .i64 (v : Int)), .sl s.length (nsl s)] = blR (L ++ [(v, s)]) := by simp [blR]
theorem minL_yes {n : Nat} {E : Prs} {st : List Int} {l : List Nat} {v : Nat} (h : (aw1 n E v &&& whr st 1) = 2 ^ v) : minL n E st (l ++ [v]) = minL n E st l ++ [(v, els (susW n E (whr st 2).testBit v))] := by
 simp [minL, List.filter_append, h]
theorem minL_no {n : Nat} {E : Prs} {st : List Int} {l : List Nat} {v : Nat} (h : (aw1 n E v &&& whr st 1) ≠ 2 ^ v) : minL n E st (l ++ [v]) = minL n E st l := by
 simp [minL, List.filter_append, h]
theorem minL_len (n : Nat) (E : Prs) (st : List Int) (l : List Nat) : (minL n E st l).length ≤ l.length := by
 unfold minL; rw [List.length_map]; exact List.length_filter_le _ _
theorem wat_lt {n : Nat} {E : Prs} {v : Int} {u : Nat} (h : u ∈ wat n (ancW n E) v) : u < n := by
 unfold wat at h
 split at h
 ·rename_i hv
  rw [ancW_get (by omega)] at h
  have := (els_mem.1 h).2
  rw [aw1, cw_bit, Bool.and_eq_true, decide_eq_true_eq] at this
  exact this.1
 ·cases h
theorem wat_len {n : Nat} (P : List Nat) (v : Int) : (wat n P v).length ≤ 64 := by
 unfold wat; split
 ·exact els_len _
 ·exact Nat.zero_le _
theorem whr_lt {st : List Int} (h : st.length ≤ 64) (x : Int) : whr st x < 18446744073709551616 := cw_lt _ _ h
theorem minimal_spec (n : Nat) (E : Prs) (P : List Nat) (hP : PW n E P) (st : List Int) (hst : st.length = n) (head : Int) :
  Spec Try.prog 59 (inSt [.fp 0 (gra n P (ancW n E)), .v (.int .i64 head), .sl n (isl st)] []) (outSt (.sl (minL n E st (wat n (ancW n E) head)).length (blR (minL n E st (wat n (ancW n E) head)))) []) := by
 have hn := hP.n64
 have hb1 := whr_lt (st := st) (by omega) 1
 have hb2 := whr_lt (st := st) (by omega) 2
 have hal := ancW_len n E
 have hat := ancW_lt hn E
 have hwl := wat_len (n := n) (ancW n E) head
 have hwt := fun u => wat_lt (n := n) (E := E) (v := head) (u := u)
 generalize hL : wat n (ancW n E) head = L at hwl hwt ⊢
 refine Spec.ofN Try.func59 rfl Try.ntmps59 rfl ?_
 refine D_seq fun K1 hK1 => ?_
 refine D_region ?_
 refine DL_c (op_as _ (rfl : _ = AV.v (.slice _ _ _))) ?_
 refine DL_nil (hK1 _ ?_)
 clear hK1; try clear K1
 refine D_seq fun K2 hK2 => ?_
 refine D_region ?_
 refine DL_c (op_mv _ (rfl : _ = AV.sl _ _)) ?_
 refine DL_c (op_callH inferInstance (by repeat' (first | exact argsLv_nil | refine argsLv_cons ?_ ?_ | exact Lv.v | exact Lv.sl)) (where_spec n st hst hn 1) rfl rfl) ?_
 refine DL_c (op_mv _ (rfl : _ = AV.sl _ _)) ?_
 refine DL_c (op_callH inferInstance (by repeat' (first | exact argsLv_nil | refine argsLv_cons ?_ ?_ | exact Lv.v | exact Lv.sl)) (where_spec n st hst hn 2) rfl rfl) ?_
 refine DL_c (op_as _ (rfl : _ = AV.v (.int _ _))) ?_
 refine DL_c (op_as _ (rfl : _ = AV.v (.int _ _))) ?_
 refine DL_nil (hK2 _ ?_)
 clear hK2; try clear K2
 refine D_seq fun K3 hK3 => ?_
 refine D_region ?_
 refine DL_c (op_asN (9, 0) _ 75 2 rfl rfl) ?_
 refine DL_nil (hK3 _ ?_)
 clear hK3; try clear K3
 refine D_seq fun K4 hK4 => ?_
 refine D_seq fun K5 hK5 => ?_
 refine D_region ?_
 refine DL_c (op_mv _ (rfl : _ = AV.fp _ _)) ?_
 refine DL_c (op_mv _ (rfl : _ = AV.v (.int _ _))) ?_
 refine DL_c (op_callH inferInstance (by repeat' (first | exact argsLv_nil | refine argsLv_cons ?_ ?_ | exact Lv.v | exact Lv.fp)) (hL ▸ ancestors_spec n P (ancW n E) hal hn hat head) rfl rfl) ?_
 refine DL_c (op_lenS _ inferInstance rfl) ?_
 refine DL_c (op_mv _ (rfl : _ = AV.v (.int _ _))) ?_
 refine DL_nil (hK5 _ ?_)
 clear hK5; try clear K5
 refine D_block ?_
 refine D_loopL (α := Nat) (fun j => j ≤ L.length) 48 [(0, _), (7, _), (8, _), (18, _), (19, _)] [] (fun j => [(20, .v (.int .i64 (j : Int))), (9, .ref (9, 0) 0 (minL n E st (L.take j)).length)]) (fun j => [((9, 0), .row 75 2 (blR (minL n E st (L.take j))))]) [] [] (fun j => L.length - j) 0 ?_ (by
  refine Le.mkJ [] [] rfl ?_ ?_ trivial trivial ?_
  ·exact ⟨(iF rfl), (iV rfl), (iV rfl), (iS rfl), (iV rfl), (lvI (by rfl)), (lvRr rfl (by rfl)), trivial⟩
  ·exact ⟨(obR rfl rfl rfl (by rfl)), trivial⟩
  ·kernel_rfl) ?_
 ·omega
 intro j hj
 have hml := minL_len n E st (L.take j)
 rw [List.length_take] at hml
 refine D_seq fun K6 hK6 => ?_
 refine D_region ?_
 refine DL_c (op_lss _ _ rfl rfl rfl) ?_
 refine DL_nil (hK6 _ ?_)
 clear hK6; try clear K6
 refine D_seq fun K7 hK7 => ?_
 refine D_splitC rfl (fun hc21 => ?_) (fun hc21 => ?_)
 ·skip
  obtain ⟨u, hu⟩ : ∃ u, u = L.getD j 0 := ⟨_, rfl⟩
  have hum : u ∈ L := hu ▸ getD_mem (by omega)
  have hun := hwt u hum
  have htk : L.take (j + 1) = L.take j ++ [u] := by rw [take1 0 (by omega), hu]
  have hag := ancW_get (E := E) hun
  have hsw : susW n E (whr st 2).testBit u < 18446744073709551616 := cw_lt n _ hn
  refine D_skip (hK7 _ ?_)
  clear hK7; try clear K7
  refine D_seq fun K8 hK8 => ?_
  refine D_block ?_
  refine D_seq fun K9 hK9 => ?_
  refine D_region ?_
  refine DL_c (op_ixS _ _ inferInstance rfl rfl _ rfl (by omega) (by (simp only [isl_len, bsl_len, psl_len, mrows_len, nsl_len, ws_len, List.length_map, ul_len, psl_len, isl_len, nrows_len, prL_len]; omega)) (by exact Nat.mul_one _)) ?_
  refine DL_c (op_ldF _ inferInstance rfl (by exact (nsl_get _ _ (by omega)).trans (by rw [← hu])) rfl) ?_
  refine DL_c (op_as _ (rfl : _ = AV.v (.int _ _))) ?_
  refine DL_nil (hK9 _ ?_)
  clear hK9; try clear K9
  refine D_seq fun K10 hK10 => ?_
  refine D_le (σ' := mkStI 48 [(0, _), (7, _), (8, _), (9, _), (11, _), (18, _), (19, _), (20, _)] [((9, 0), _)] [] []) (by
   refine Le.mkJ [] [] rfl ?_ ?_ trivial trivial ?_
   ·exact ⟨(iF rfl), (iV rfl), (iV rfl), (iR rfl), (iV rfl), (iS rfl), (iV rfl), (iV rfl), trivial⟩
   ·exact ⟨(obE rfl rfl rfl), trivial⟩
   ·kernel_rfl) ?_
  refine D_anyL 12 [24, 25, 26, 27, 28, 29, 30, 31, 32, 33, 34, 35] [] (by kernel_rfl) (by kernel_rfl) rfl (nodupO_iff rfl) (rfl : _ = [_, _, _, _, _, _, _, _, _, _, _, _]) (rfl : _ = []) ?_
  refine any_c (_, []) (fun τ => op_mv _ (rfl : _ = AV.fp _ _)) ?_
  refine any_n (rfl : _ = [_]) ?_
  refine any_c (_, []) (fun τ => op_nilc _ rfl) ?_
  refine any_n (rfl : _ = [_, _]) ?_
  refine any_c (_, []) (fun τ => op_fldF _ inferInstance rfl rfl) ?_
  refine any_n (rfl : _ = [_, _, _]) ?_
  refine any_c (_, []) (fun τ => op_ldF _ inferInstance rfl (rfl : _ = some (PV.sl n (ul (ancW n E)))) rfl) ?_
  refine any_n (rfl : _ = [_, _, _, _]) ?_
  refine any_c (_, []) (fun τ => op_mv _ (rfl : _ = AV.v (.int _ _))) ?_
  refine any_n (rfl : _ = [_, _, _, _, _]) ?_
  refine any_c (_, []) (fun τ => op_ixS _ _ inferInstance rfl rfl u rfl (by omega) (by simp; omega) (Nat.mul_one _)) ?_
  refine any_n (rfl : _ = [_, _, _, _, _, _]) ?_
  refine any_c (_, []) (fun τ => op_ldF _ inferInstance rfl (by exact (ul_get _ _ (by omega)).trans (by rw [hag])) rfl) ?_
  refine any_n (rfl : _ = [_, _, _, _, _, _, _]) ?_
  refine any_c (_, []) (fun τ => op_mv _ (rfl : _ = AV.v (.int _ _))) ?_
  refine any_n (rfl : _ = [_, _, _, _, _, _, _, _]) ?_
  refine any_c (_, []) (fun τ => op_and _ _ rfl rfl (u64_and _ _ (aw1_lt hn E u) hb1)) ?_
  refine any_n (rfl : _ = [_, _, _, _, _, _, _, _, _]) ?_
  refine any_c (_, []) (fun τ => op_mv _ (rfl : _ = AV.v (.int _ _))) ?_
  refine any_n (rfl : _ = [_, _, _, _, _, _, _, _, _, _]) ?_
  refine any_c (_, []) (fun τ => (op_callH inferInstance (by repeat' (first | exact argsLv_nil | refine argsLv_cons ?_ ?_ | exact Lv.v)) (with_spec 0 u (by omega) (by omega)) rfl rfl)) ?_
  refine any_n (rfl : _ = [_, _, _, _, _, _, _, _, _, _, _]) ?_
  refine any_c (_, []) (fun τ => op_eql _ _ rfl rfl rfl) ?_
  refine any_n (rfl : _ = [_, _, _, _, _, _, _, _, _, _, _, _]) ?_
  refine any_end ⟨rfl, ?_⟩
  refine DL_nil (hK10 _ ?_)
  clear hK10; try clear K10
  refine D_splitC rfl (fun hc35 => ?_) (fun hc35 => ?_)
  ·skip
   have hmy := minL_yes (n := n) (E := E) (st := st) (l := L.take j) (v := u) (by rw [Nat.zero_or] at hc35; omega)
   rw [← htk] at hmy
   refine D_region ?_
   refine DL_c (op_mv _ (rfl : _ = AV.ref _ _ _)) ?_
   refine DL_c (op_mv _ (rfl : _ = AV.v (.int _ _))) ?_
   refine DL_c (op_mv _ (rfl : _ = AV.fp _ _)) ?_
   refine DL_c (op_mv _ (rfl : _ = AV.v (.int _ _))) ?_
   refine DL_c (op_mv _ (rfl : _ = AV.v (.int _ _))) ?_
   refine DL_c (op_callH inferInstance (by repeat' (first | exact argsLv_nil | refine argsLv_cons ?_ ?_ | exact Lv.v | exact Lv.fp)) (suspects_spec n E P (ancW n E) hP u hun (whr st 2) hb2) rfl rfl) ?_
   refine DL_c (op_callH inferInstance (by repeat' (first | exact argsLv_nil | refine argsLv_cons ?_ ?_ | exact Lv.v)) (list_spec _ hsw) rfl rfl) ?_
   refine DL_c (op_build _ inferInstance rfl (by exact (rfl : _ = some [_, _]))) ?_
   refine DL_c (op_bsF _ _ inferInstance rfl (by rfl) (by simp <;> rfl) (by decide) rfl) ?_
   refine DL_c (op_ap (45, 0) _ _ inferInstance rfl rfl (by (simp; done)) (by (refine .sl ?_; (simp [isl]; done))) (by omega) rfl (rfl) (rfl)) ?_
   refine DL_c (op_as _ (rfl : _ = AV.ref _ _ _)) ?_
   refine DL_nil (hK8 _ ?_)
   clear hK8; try clear K8
   refine D_le (σ' := mkStI 48 [(0, _), (7, _), (8, _), (9, _), (18, _), (19, _), (20, _)] [((45, 0), _)] [] []) (by
    refine Le.mkJ [] [] rfl ?_ ?_ trivial trivial ?_
    ·exact ⟨(iF rfl), (iV rfl), (iV rfl), (iR rfl), (iS rfl), (iV rfl), (iV rfl), trivial⟩
    ·exact ⟨(obE rfl rfl rfl), trivial⟩
    ·kernel_rfl) ?_
   refine D_region ?_
   refine DL_c (op_add _ _ rfl rfl (i64w (by omega))) ?_
   refine DL_c (op_mv _ (rfl : _ = AV.v (.int _ _))) ?_
   refine DL_nil ?_
   refine ⟨j + 1, ?_, ?_, ?_⟩
   ·omega
   ·skip
    refine Le.mkJ [((9, 0), (45, 0))] [] rfl ?_ ?_ trivial trivial ?_
    ·exact ⟨(by repeat' (exact Lv.fp)), (by repeat' (exact Lv.v)), (by repeat' (exact Lv.v)), (by repeat' (exact Lv.sl)), (by repeat' (exact Lv.v)), (lvI (by rfl)), (lvRr rfl (by ((rw [hmy, List.length_append]; rfl)))), trivial⟩
    ·exact ⟨(obR rfl rfl rfl (by ((rw [hmy, ← blR_app])))), trivial⟩
    ·kernel_rfl
   ·omega
  ·skip
   have hmn := minL_no (n := n) (E := E) (st := st) (l := L.take j) (v := u) (by rw [Nat.zero_or] at hc35; omega)
   rw [← htk] at hmn
   refine D_skip (hK8 _ ?_)
   clear hK8; try clear K8
   refine D_region ?_
   refine DL_c (op_add _ _ rfl rfl (i64w (by omega))) ?_
   refine DL_c (op_mv _ (rfl : _ = AV.v (.int _ _))) ?_
   refine DL_nil ?_
   refine ⟨j + 1, ?_, ?_, ?_⟩
   ·omega
   ·skip
    refine Le.mkJ [] [] rfl ?_ ?_ trivial trivial ?_
    ·exact ⟨(iF rfl), (iV rfl), (iV rfl), (iS rfl), (iV rfl), (lvI (by rfl)), (lvRr rfl (by (rw [hmn]))), trivial⟩
    ·exact ⟨(obR rfl rfl rfl (by (rw [hmn]))), trivial⟩
    ·kernel_rfl
   ·omega
 ·skip
  have htl : L.take j = L := List.take_of_length_le (by omega)
  refine D_exit ?_
  refine id (hK4 _ ?_)
  clear hK4; try clear K4
  refine D_seq fun K11 hK11 => ?_
  refine D_region ?_
  refine DL_c (op_mv _ (rfl : _ = AV.ref _ _ _)) ?_
  refine DL_c (op_as _ (rfl : _ = AV.ref _ _ _)) ?_
  refine DL_nil (hK11 _ ?_)
  clear hK11; try clear K11
  refine D_ret ?_
  rw [show minL n E st L = minL n E st (L.take j) from by rw [htl]]
  exact ret1 (.inr rfl) rfl (.tmp (rfl : _ = AV.ref _ _ _)) (Le.out [] [(9, 0)] (frz0 rfl rfl (by rw [blR_len]) rfl) rfl rfl rfl ⟨rfl, trivial⟩ trivial)
end Go.Proofs.Ytkbkmngbenohkaa

namespace Go.Proofs.Ytkbkmngbenohkaa
open Go.RowKit

def pk (l : List Int) (i : Nat) (n : Int) : Int := if i < l.length then around (l.getD i 0) n else 0
theorem pick_spec (m : Nat) (l : List Int) (hm : l.length = m) (h1 : m ≤ 4611686018427387904) (hr : Rng l) (i : Nat) (n : Int) (hn : 1 ≤ n) (hn1 : n ≤ 4611686018427387904) :
  Spec Try.prog 96 (inSt [.sl m (isl l), .v (.int .i64 (i : Int)), .v (.int .i64 n)] []) (outSt (.v (.int .i64 (pk l i n))) []) := by
 have hrg := rngd hr i
 refine Spec.ofN Try.func96 rfl Try.ntmps96 rfl ?_
 refine D_seq fun K1 hK1 => ?_
 refine D_region ?_
 refine DL_c (op_as _ (rfl : _ = AV.v (.int _ _))) ?_
 refine DL_nil (hK1 _ ?_)
 clear hK1; try clear K1
 refine D_seq fun K2 hK2 => ?_
 refine D_seq fun K3 hK3 => ?_
 refine D_region ?_
 refine DL_c (op_mv _ (rfl : _ = AV.v (.int _ _))) ?_
 refine DL_c (op_lss _ _ rfl rfl rfl) ?_
 refine DL_c (op_mv _ (rfl : _ = AV.v (.bool _))) ?_
 refine DL_caseC (fun hg9 => ?_) (fun hg9 => ?_)
 ·skip
  refine DL_cn rfl rfl (by decide) ?_
  refine DL_cn rfl rfl (by decide) ?_
  refine DL_cn rfl rfl (by decide) ?_
  refine DL_cn rfl rfl (by decide) ?_
  refine DL_c (op_pick _ _ _ rfl (rfl : _ = AV.v (.bool _))) ?_
  refine DL_nil (hK3 _ ?_)
  clear hK3; try clear K3
  refine D_cT rfl rfl ?_
  refine D_seq fun K4 hK4 => ?_
  refine D_region ?_
  refine DL_c (op_as _ (rfl : _ = AV.v (.int _ _))) ?_
  refine DL_nil (hK4 _ ?_)
  clear hK4; try clear K4
  refine D_ret ?_
  exact absurd hg9 (by omega)
 ·skip
  refine DL_cy rfl rfl (op_mv _ (rfl : _ = AV.v (.int _ _))) ?_
  refine DL_cy rfl rfl (op_mv _ (rfl : _ = AV.sl _ _)) ?_
  refine DL_cy rfl rfl (op_lenS _ inferInstance rfl) ?_
  refine DL_cy rfl rfl (op_geq _ _ rfl rfl rfl) ?_
  refine DL_c (op_pick _ _ _ rfl (rfl : _ = AV.v (.bool _))) ?_
  refine DL_nil (hK3 _ ?_)
  clear hK3; try clear K3
  refine D_splitC rfl (fun hc14 => ?_) (fun hc14 => ?_)
  ·skip
   refine D_seq fun K5 hK5 => ?_
   refine D_region ?_
   refine DL_c (op_as _ (rfl : _ = AV.v (.int _ _))) ?_
   refine DL_nil (hK5 _ ?_)
   clear hK5; try clear K5
   refine D_ret ?_
   refine ret1 (.inr rfl) rfl (.tmp (rfl : _ = AV.v (.int _ _))) (Le.out [] [] (lvI ?_) rfl rfl rfl trivial trivial)
   unfold pk; rw [if_neg (by omega)]
  ·skip
   refine D_skip (hK2 _ ?_)
   clear hK2; try clear K2
   refine D_seq fun K6 hK6 => ?_
   refine D_region ?_
   refine DL_c (op_mv _ (rfl : _ = AV.sl _ _)) ?_
   refine DL_c (op_mv _ (rfl : _ = AV.v (.int _ _))) ?_
   refine DL_c (op_ixS _ _ inferInstance rfl rfl _ rfl (by omega) (by (simp only [isl_len, bsl_len, psl_len, mrows_len, nsl_len, ws_len, List.length_map, ul_len, psl_len, isl_len, nrows_len, prL_len, blR_len]; omega)) (by exact Nat.mul_one _)) ?_
   refine DL_c (op_ldF _ inferInstance rfl (by exact isl_get _ _ (by omega)) rfl) ?_
   refine DL_c (op_mv _ (rfl : _ = AV.v (.int _ _))) ?_
   refine DL_c (op_callH inferInstance (by repeat' (first | exact argsLv_nil | refine argsLv_cons ?_ ?_ | exact Lv.v)) (around_spec (l.getD i 0) n hn hn1 hrg.1 hrg.2) rfl rfl) ?_
   refine DL_c (op_as _ (rfl : _ = AV.v (.int _ _))) ?_
   refine DL_nil (hK6 _ ?_)
   clear hK6; try clear K6
   refine D_ret ?_
   refine ret1 (.inr rfl) rfl (.tmp (rfl : _ = AV.v (.int _ _))) (Le.out [] [] (lvI ?_) rfl rfl rfl trivial trivial)
   unfold pk; rw [if_pos (by omega)]
theorem blR_get0 (L : List (Nat × List Nat)) : ∀ (i : Nat), i < L.length → (blR L)[i * 2]? = some (.v (.int .i64 (((L.getD i (0, [])).1 : Nat) : Int))) := by
 induction L with
 | nil => intro i h; simp at h
 | cons b L ih =>
  intro i h
  have e : blR (b :: L) = .v (.int .i64 (b.1 : Int)) :: .sl b.2.length (nsl b.2) :: blR L := rfl
  cases i with
  | zero => simp [e]
  | succ i => rw [e, show (i + 1) * 2 = i * 2 + 1 + 1 by omega, List.getElem?_cons_succ, List.getElem?_cons_succ, ih i (by simpa using h)]; rfl
theorem blR_get1 (L : List (Nat × List Nat)) : ∀ (i : Nat), i < L.length → (blR L)[i * 2 + 1]? = some (.sl (L.getD i (0, [])).2.length (nsl (L.getD i (0, [])).2)) := by
 induction L with
 | nil => intro i h; simp at h
 | cons b L ih =>
  intro i h
  have e : blR (b :: L) = .v (.int .i64 (b.1 : Int)) :: .sl b.2.length (nsl b.2) :: blR L := rfl
  cases i with
  | zero => simp [e]
  | succ i => rw [e, show (i + 1) * 2 + 1 = i * 2 + 1 + 1 + 1 by omega, List.getElem?_cons_succ, List.getElem?_cons_succ, ih i (by simpa using h)]; rfl
theorem cast_inj {a b : List Nat} : a.map (fun (x : Nat) => (x : Int)) = b.map (fun (x : Nat) => (x : Int)) ↔ a = b := by
 constructor
 ·intro h
  apply List.ext_getElem
  ·simpa using congrArg List.length h
  ·intro i h1 h2
   have := congrArg (fun l => l[i]?) h
   simp only [List.getElem?_map, List.getElem?_eq_getElem h1, List.getElem?_eq_getElem h2, Option.map_some, Option.some.injEq] at this
   omega
 ·intro h; rw [h]
end Go.Proofs.Ytkbkmngbenohkaa

namespace Go.Proofs.Ytkbkmngbenohkaa
open Go.RowKit

/-- Statuses from numbers. -/
def stv (l : List Int) (v : Nat) : Int := [0, 0, 2, 1, 0, 2].getD (pk l v 6).toNat 0
def st0 (n : Nat) (l : List Int) : List Int := (List.range n).map (stv l)
@[simp] theorem st0_len (n : Nat) (l : List Int) : (st0 n l).length = n := by simp [st0]
theorem st0_succ (n : Nat) (l : List Int) : st0 (n + 1) l = st0 n l ++ [stv l n] := by simp [st0, List.range_succ]
theorem pk_bd (l : List Int) (i : Nat) (n : Int) (hn : 1 ≤ n) : 0 ≤ pk l i n ∧ pk l i n < n := by
 unfold pk; split
 ·exact ⟨around_lo _ _ hn, around_hi _ _ hn⟩
 ·omega
def inh1 (o : List Int) (v : Nat) (a : List Nat) : List Int := a.foldl (fun o u => if o.getD u 0 = 1 ∧ o.getD v 0 = 0 then o.set v 1 else o) o
theorem inh1_snoc (o : List Int) (v : Nat) (a : List Nat) (u : Nat) : inh1 o v (a ++ [u]) = if (inh1 o v a).getD u 0 = 1 ∧ (inh1 o v a).getD v 0 = 0 then (inh1 o v a).set v 1 else inh1 o v a := by simp [inh1, List.foldl_append]
@[simp] theorem inh1_len (v : Nat) : ∀ (a : List Nat) (o : List Int), (inh1 o v a).length = o.length
 | [], _ => rfl
 | u :: a, o => by
  have e : inh1 o v (u :: a) = inh1 (if o.getD u 0 = 1 ∧ o.getD v 0 = 0 then o.set v 1 else o) v a := rfl
  rw [e, inh1_len v a]
  split <;> simp
/-- The versions above one, in increasing order. -/
noncomputable def upE (Ps : List (List Int)) (v : Nat) : List Nat := wat Ps.length (ancW Ps.length (edg Ps Ps.length 0)) (v : Int)
noncomputable def stK (Ps : List (List Int)) (l : List Int) (b : Bool) (k : Nat) : List Int := if b = true then (List.range k).foldl (fun o v => inh1 o v (upE Ps v)) (st0 Ps.length l) else st0 Ps.length l
theorem stK_zero (Ps : List (List Int)) (l : List Int) (b : Bool) : stK Ps l b 0 = st0 Ps.length l := by unfold stK; split <;> rfl
theorem stK_succ (Ps : List (List Int)) (l : List Int) (k : Nat) : stK Ps l true (k + 1) = inh1 (stK Ps l true k) k (upE Ps k) := by simp [stK, List.range_succ, List.foldl_append]
theorem stK_false (Ps : List (List Int)) (l : List Int) (k j : Nat) : stK Ps l false k = stK Ps l false j := rfl
@[simp] theorem stK_len (Ps : List (List Int)) (l : List Int) (b : Bool) : ∀ k, (stK Ps l b k).length = Ps.length
 | 0 => by rw [stK_zero]; simp
 | k + 1 => by
  cases b with
  | false => rw [stK_false Ps l (k + 1) k]; exact stK_len Ps l false k
  | true => rw [stK_succ, inh1_len]; exact stK_len Ps l true k
noncomputable def status32 (Ps : List (List Int)) (l : List Int) (b : Bool) : List Int := stK Ps l b Ps.length
@[simp] theorem status32_len (Ps : List (List Int)) (l : List Int) (b : Bool) : (status32 Ps l b).length = Ps.length := stK_len _ _ _ _
theorem upE_mem {Ps : List (List Int)} (h64 : Ps.length ≤ 64) {v u : Nat} (hv : v < Ps.length) : u ∈ upE Ps v ↔ u < Ps.length ∧ (u = v ∨ Clo (edg Ps Ps.length 0) u v) := by
 unfold upE wat
 rw [if_pos (by omega), Int.toNat_natCast, ancW_get hv, els_mem, aw1, cw_bit]
 simp only [Bool.and_eq_true, Bool.or_eq_true, decide_eq_true_eq, cl_iff]
 constructor
 ·exact fun h => h.2
 ·exact fun h => ⟨by omega, h⟩
theorem upE_nodup (Ps : List (List Int)) (v : Nat) : (upE Ps v).Nodup := by
 unfold upE wat
 split
 ·exact List.Pairwise.filter _ List.nodup_range
 ·exact List.nodup_nil
/-- The reference's test of a minimal version. -/
def rmin (Ps : List (List Int)) (st : List Int) (v : Nat) : Prop := st.getD v 0 = 1 ∧ ∀ u ∈ upE Ps v, u ≠ v → st.getD u 0 ≠ 1
theorem rmin_iff {Ps : List (List Int)} (h64 : Ps.length ≤ 64) {st : List Int} (hst : st.length = Ps.length) {v : Nat} (hv : v < Ps.length) : rmin Ps st v ↔ (aw1 Ps.length (edg Ps Ps.length 0) v &&& whr st 1) = 2 ^ v := by
 have hb : ∀ c, (aw1 Ps.length (edg Ps Ps.length 0) v &&& whr st 1).testBit c = true ↔ c ∈ upE Ps v ∧ st.getD c 0 = 1 := by
  intro c
  rw [Nat.testBit_and, aw1, cw_bit, whr_bit, upE_mem h64 hv, hst]
  simp only [Bool.and_eq_true, Bool.or_eq_true, decide_eq_true_eq, cl_iff]
  constructor
  ·exact fun h => ⟨h.1, h.2.2⟩
  ·exact fun h => ⟨h.1, h.1.1, h.2⟩
 have hvu : v ∈ upE Ps v := (upE_mem h64 hv).2 ⟨hv, .inl rfl⟩
 constructor
 ·rintro ⟨h1, h2⟩
  apply Nat.eq_of_testBit_eq
  intro c
  rw [Nat.testBit_two_pow, Bool.eq_iff_iff, hb, decide_eq_true_eq]
  constructor
  ·rintro ⟨h3, h4⟩
   exact Classical.byContradiction fun hne => h2 c h3 (fun e => hne e.symm) h4
  ·rintro rfl; exact ⟨hvu, h1⟩
 ·intro h
  have h3 := fun c => hb c
  rw [h] at h3
  simp only [Nat.testBit_two_pow, decide_eq_true_eq] at h3
  refine ⟨((h3 v).1 rfl).2, fun u hu hne hs => hne ((h3 u).2 ⟨hu, hs⟩).symm⟩
/-- The untestable parents alone. -/
def unt (st : List Int) (p : Int) : Bool := decide (st.getD p.toNat 0 = 2)
def Pst (Ps : List (List Int)) (st : List Int) : List (List Int) := Ps.map fun r => r.filter (unt st)
@[simp] theorem Pst_len (Ps : List (List Int)) (st : List Int) : (Pst Ps st).length = Ps.length := by simp [Pst]
theorem els_cw {n : Nat} (h64 : n ≤ 64) (f : Nat → Bool) : els (cw n f) = (List.range n).filter f := by
 unfold els
 obtain ⟨d, hd⟩ : ∃ d, 64 = n + d := ⟨64 - n, by omega⟩
 rw [hd, List.range_add, List.filter_append]
 have e1 : List.filter (fun b => (cw n f).testBit b) (List.range n) = (List.range n).filter f := by
  refine List.filter_congr fun b hb => ?_
  rw [cw_bit, decide_eq_true (List.mem_range.1 hb), Bool.true_and]
 have e2 : List.filter (fun b => (cw n f).testBit b) ((List.range d).map (n + ·)) = [] := by
  rw [List.filter_eq_nil_iff]
  intro b hb
  obtain ⟨k, _, rfl⟩ := List.mem_map.1 hb
  rw [cw_bit, decide_eq_false (by omega), Bool.false_and]
  simp
 rw [e1, e2, List.append_nil]
/-- Inherited, as the reference says it. -/
def rinh (Ps : List (List Int)) (st : List Int) (k : Nat) : Prop := ∀ v, v < k → st.getD v 0 = 0 → ∀ u ∈ upE Ps v, st.getD u 0 ≠ 1
end Go.Proofs.Ytkbkmngbenohkaa

namespace Go.Proofs.Ytkbkmngbenohkaa
open Go.RowKit

structure GG (n : Nat) (Ps : List (List Int)) : Prop where
 len : Ps.length = n
 n64 : n ≤ 64
 V : Valid Ps
 m : ∀ v, (Ps.getD v []).length ≤ 64
 ac : ¬ ∃ a, a < n ∧ Clo (edg Ps n 0) a a
theorem Near.gg {Ps : List (List Int)} (h : Near Ps) : GG Ps.length Ps := ⟨rfl, by have := h.n; omega, h.valid, fun v => by have := h.rows v; omega, h.acyc⟩
theorem upE_lt {n : Nat} {Ps : List (List Int)} (h : GG n Ps) {v u : Nat} (hu : u ∈ upE Ps v) : u < n := h.len ▸ wat_lt hu
theorem upE_len (Ps : List (List Int)) (v : Nat) : (upE Ps v).length ≤ 64 := wat_len _ _
theorem rancN_spec (n : Nat) (Ps : List (List Int)) (h : GG n Ps) (v : Nat) :
  Spec Try.prog 66 (inSt [.sl n (nrows Ps), .v (.int .i64 (v : Int))] []) (outSt (.sl (upE Ps v).length (nsl (upE Ps v))) []) := by
 have h1 := rancestors_spec n Ps h.len (by have := h.n64; omega) h.V (fun v => by have := h.m v; omega) v
 have h2 : rat Ps (v : Int) = (upE Ps v).map fun (x : Nat) => (x : Int) := rat_els h.V (by rw [h.len]; exact h.n64) v
 rw [h2, List.length_map] at h1
 exact h1
theorem stv_bd (l : List Int) (v : Nat) : 0 ≤ stv l v ∧ stv l v ≤ 2 := by
 unfold stv
 have h1 := pk_bd l v 6 (by decide)
 obtain ⟨k, hk⟩ := Int.eq_ofNat_of_zero_le h1.1
 rw [hk] at h1 ⊢
 rw [Int.toNat_natCast]
 have h2 : k = 0 ∨ k = 1 ∨ k = 2 ∨ k = 3 ∨ k = 4 ∨ k = 5 := by omega
 rcases h2 with rfl | rfl | rfl | rfl | rfl | rfl <;> decide
theorem status_spec (n : Nat) (Ps : List (List Int)) (hG : GG n Ps) (m : Nat) (l : List Int) (hm : l.length = m) (h1 : m ≤ 4611686018427387904) (hr : Rng l) (b : Bool) :
  Spec Try.prog 57 (inSt [.sl n (nrows Ps), .sl m (isl l), .v (.bool b)] []) (outSt (.sl n (isl (status32 Ps l b))) []) := by
 have hn := hG.n64
 have hPl := hG.len
 refine Spec.ofN Try.func57 rfl Try.ntmps57 rfl ?_
 refine D_seq fun K1 hK1 => ?_
 refine D_region ?_
 refine DL_c (op_as _ (rfl : _ = AV.v (.slice _ _ _))) ?_
 refine DL_nil (hK1 _ ?_)
 clear hK1; try clear K1
 refine D_seq fun K2 hK2 => ?_
 refine D_region ?_
 refine DL_c (op_asN (7, 0) _ 3 1 rfl rfl) ?_
 refine DL_nil (hK2 _ ?_)
 clear hK2; try clear K2
 refine D_seq fun K3 hK3 => ?_
 refine D_seq fun K4 hK4 => ?_
 refine D_region ?_
 refine DL_c (op_as _ (rfl : _ = AV.v (.int _ _))) ?_
 refine DL_nil (hK4 _ ?_)
 clear hK4; try clear K4
 refine D_block ?_
 refine D_loopL (α := Nat) (fun v => v ≤ n) 66 [(0, _), (1, _), (2, _)] [] (fun v => [(8, .v (.int .i64 (v : Int))), (7, .ref (7, 0) 0 v)]) (fun v => [((7, 0), .row 3 1 (isl (st0 v l)))]) [] [] (fun v => n - v) 0 ?_ (by
  refine Le.mkJ [] [] rfl ?_ ?_ trivial trivial ?_
  ·exact ⟨(iS rfl), (iS rfl), (iV rfl), (lvI (by rfl)), (lvRr rfl (by rfl)), trivial⟩
  ·exact ⟨(obR rfl rfl rfl (by rfl)), trivial⟩
  ·kernel_rfl) ?_
 ·omega
 intro v hv
 refine D_seq fun K5 hK5 => ?_
 refine D_seq fun K6 hK6 => ?_
 refine D_region ?_
 refine DL_c (op_mv _ (rfl : _ = AV.v (.int _ _))) ?_
 refine DL_c (op_mv _ (rfl : _ = AV.sl _ _)) ?_
 refine DL_c (op_lenS _ inferInstance rfl) ?_
 refine DL_c (op_lss _ _ rfl rfl rfl) ?_
 refine DL_nil (hK6 _ ?_)
 clear hK6; try clear K6
 refine D_splitC rfl (fun hc16 => ?_) (fun hc16 => ?_)
 ·skip
  have hp := pk_bd l v 6 (by decide)
  obtain ⟨k, hk⟩ := Int.eq_ofNat_of_zero_le hp.1
  have hsv : stv l v = [0, 0, 2, 1, 0, 2].getD k 0 := by rw [stv, hk, Int.toNat_natCast]
  have hk6 : k < 6 := by omega
  refine D_skip (hK5 _ ?_)
  clear hK5; try clear K5
  refine D_seq fun K7 hK7 => ?_
  refine D_block ?_
  refine D_seq fun K8 hK8 => ?_
  refine D_region ?_
  refine DL_c (op_bsF _ _ inferInstance rfl (by rfl) (by simp <;> rfl) (by decide) rfl) ?_
  refine DL_c (op_mv _ (rfl : _ = AV.sl _ _)) ?_
  refine DL_c (op_mv _ (rfl : _ = AV.v (.int _ _))) ?_
  refine DL_c (op_callH inferInstance (by repeat' (first | exact argsLv_nil | refine argsLv_cons ?_ ?_ | exact Lv.v | exact Lv.sl)) (pick_spec m l hm h1 hr v 6 (by omega) (by omega)) rfl rfl) ?_
  refine DL_c (op_ixS _ _ inferInstance rfl rfl k hk (by omega) (by simp only [List.length_cons, List.length_nil]; omega) (Nat.mul_one _)) ?_
  refine DL_c (op_ldF _ inferInstance rfl (by exact isl_get [0, 0, 2, 1, 0, 2] k hk6) rfl) ?_
  refine DL_c (op_as _ (rfl : _ = AV.v (.int _ _))) ?_
  refine DL_nil (hK8 _ ?_)
  clear hK8; try clear K8
  refine D_region ?_
  refine DL_c (op_mv _ (rfl : _ = AV.ref _ _ _)) ?_
  refine DL_c (op_mv _ (rfl : _ = AV.v (.int _ _))) ?_
  refine DL_c (op_bsF _ _ inferInstance rfl (by rfl) (by simp <;> rfl) (by decide) rfl) ?_
  refine DL_c (op_ap (28, 0) _ _ inferInstance rfl rfl (by (simp only [isl_len, bsl_len, psl_len, mrows_len, nsl_len, ws_len, List.length_map, ul_len, psl_len, isl_len, nrows_len, prL_len, blR_len, stK_len, inh1_len, st0_len]; omega)) (by (refine .sl ?_; (simp [isl]; done))) (by omega) rfl (rfl) (rfl)) ?_
  refine DL_c (op_as _ (rfl : _ = AV.ref _ _ _)) ?_
  refine DL_nil (hK7 _ ?_)
  clear hK7; try clear K7
  refine D_le (σ' := mkStI 66 [(0, _), (1, _), (2, _), (7, _), (8, _)] [((28, 0), _)] [] []) (by
   refine Le.mkJ [] [] rfl ?_ ?_ trivial trivial ?_
   ·exact ⟨(iS rfl), (iS rfl), (iV rfl), (iR rfl), (iV rfl), trivial⟩
   ·exact ⟨(obE rfl rfl rfl), trivial⟩
   ·kernel_rfl) ?_
  refine D_region ?_
  refine DL_c (op_mv _ (rfl : _ = AV.v (.int _ _))) ?_
  refine DL_c (op_add _ _ rfl rfl (i64w (by omega))) ?_
  refine DL_c (op_as _ (rfl : _ = AV.v (.int _ _))) ?_
  refine DL_nil ?_
  refine ⟨v + 1, ?_, ?_, ?_⟩
  ·omega
  ·skip
   refine Le.mkJ [((7, 0), (28, 0))] [] rfl ?_ ?_ trivial trivial ?_
   ·exact ⟨(by repeat' (exact Lv.sl)), (by repeat' (exact Lv.sl)), (by repeat' (exact Lv.v)), (lvI (by rfl)), (lvRr rfl (by rfl)), trivial⟩
   ·exact ⟨(obR rfl rfl rfl (by rw [st0_succ, hsv]; simp [isl])), trivial⟩
   ·kernel_rfl
  ·omega
 ·skip
  obtain rfl : v = n := by omega
  refine D_exit ?_
  refine id (hK3 _ ?_)
  clear hK3; try clear K3
  refine D_seq fun K9 hK9 => ?_
  refine D_seq fun K10 hK10 => ?_
  refine D_region ?_
  refine DL_c (op_as _ (rfl : _ = AV.v (.int _ _))) ?_
  refine DL_nil (hK10 _ ?_)
  clear hK10; try clear K10
  refine D_block ?_
  refine D_loopL (α := Nat) (fun k => k ≤ v) 66 [(0, _), (2, _), (7, _)] [] (fun k => [(10, .v (.int .i64 (k : Int)))]) (fun k => [((7, 0), .row 3 1 (isl (stK Ps l b k)))]) [] [] (fun k => v - k) 0 ?_ (by
   refine Le.mkJ [] [] rfl ?_ ?_ trivial trivial ?_
   ·exact ⟨(iS rfl), (iV rfl), (iR rfl), (lvI (by rfl)), trivial⟩
   ·exact ⟨(obR rfl rfl rfl (by rw [stK_zero, hPl])), trivial⟩
   ·kernel_rfl) ?_
  ·omega
  intro k hk
  refine D_seq fun K11 hK11 => ?_
  refine D_seq fun K12 hK12 => ?_
  refine D_region ?_
  refine DL_c (op_mv _ (rfl : _ = AV.v (.int _ _))) ?_
  refine DL_c (op_mv _ (rfl : _ = AV.sl _ _)) ?_
  refine DL_c (op_lenS _ inferInstance rfl) ?_
  refine DL_c (op_lss _ _ rfl rfl rfl) ?_
  refine DL_c (op_mv _ (rfl : _ = AV.v (.bool _))) ?_
  refine DL_caseC (fun hg33 => ?_) (fun hg33 => ?_)
  ·skip
   refine DL_cy rfl rfl (op_mv _ (rfl : _ = AV.v (.bool _))) ?_
   refine DL_c (op_pick _ _ _ rfl (rfl : _ = AV.v (.bool _))) ?_
   refine DL_nil (hK12 _ ?_)
   clear hK12; try clear K12
   refine D_splitC rfl (fun hc35 => ?_) (fun hc35 => ?_)
   ·skip
    have hb : b = true := hc35
    subst hb
    have hsl := stK_len Ps l true k
    have hul := upE_len Ps k
    have hss := stK_succ Ps l k
    refine D_skip (hK11 _ ?_)
    clear hK11; try clear K11
    refine D_seq fun K13 hK13 => ?_
    refine D_block ?_
    refine D_seq fun K14 hK14 => ?_
    refine D_region ?_
    refine DL_c (op_mv _ (rfl : _ = AV.sl _ _)) ?_
    refine DL_c (op_mv _ (rfl : _ = AV.v (.int _ _))) ?_
    refine DL_c (op_callH inferInstance (by repeat' (first | exact argsLv_nil | refine argsLv_cons ?_ ?_ | exact Lv.v | exact Lv.sl)) (rancN_spec v Ps hG k) rfl rfl) ?_
    refine DL_c (op_as _ (rfl : _ = AV.sl _ _)) ?_
    refine DL_nil (hK14 _ ?_)
    clear hK14; try clear K14
    refine D_seq fun K15 hK15 => ?_
    refine D_region ?_
    refine DL_c (op_as _ (rfl : _ = AV.v (.int _ _))) ?_
    refine DL_nil (hK15 _ ?_)
    clear hK15; try clear K15
    refine D_block ?_
    refine D_loopL (α := Nat) (fun j => j ≤ (upE Ps k).length) 66 [(0, _), (2, _), (7, _), (10, _), (11, _)] [] (fun j => [(12, .v (.int .i64 (j : Int)))]) (fun j => [((7, 0), .row 3 1 (isl (inh1 (stK Ps l true k) k ((upE Ps k).take j))))]) [] [] (fun j => (upE Ps k).length - j) 0 ?_ (by
     refine Le.mkJ [] [] rfl ?_ ?_ trivial trivial ?_
     ·exact ⟨(iS rfl), (iV rfl), (iR rfl), (iV rfl), (iS rfl), (lvI (by rfl)), trivial⟩
     ·exact ⟨(obR rfl rfl rfl (by rfl)), trivial⟩
     ·kernel_rfl) ?_
    ·omega
    intro j hj
    have hil := inh1_len k ((upE Ps k).take j) (stK Ps l true k)
    refine D_seq fun K16 hK16 => ?_
    refine D_seq fun K17 hK17 => ?_
    refine D_region ?_
    refine DL_c (op_mv _ (rfl : _ = AV.v (.int _ _))) ?_
    refine DL_c (op_mv _ (rfl : _ = AV.sl _ _)) ?_
    refine DL_c (op_lenS _ inferInstance rfl) ?_
    refine DL_c (op_lss _ _ rfl rfl rfl) ?_
    refine DL_nil (hK17 _ ?_)
    clear hK17; try clear K17
    refine D_splitC rfl (fun hc44 => ?_) (fun hc44 => ?_)
    ·skip
     obtain ⟨u, hu⟩ : ∃ u, u = (upE Ps k).getD j 0 := ⟨_, rfl⟩
     have hum : u ∈ upE Ps k := hu ▸ getD_mem (by omega)
     have hun := upE_lt hG hum
     have htk : (upE Ps k).take (j + 1) = (upE Ps k).take j ++ [u] := by rw [take1 0 (by omega), hu]
     have hin := inh1_snoc (stK Ps l true k) k ((upE Ps k).take j) u
     rw [← htk] at hin
     generalize inh1 (stK Ps l true k) k ((upE Ps k).take j) = o at hil hin ⊢
     refine D_skip (hK16 _ ?_)
     clear hK16; try clear K16
     refine D_seq fun K18 hK18 => ?_
     refine D_block ?_
     refine D_seq fun K19 hK19 => ?_
     refine D_region ?_
     refine DL_c (op_mv _ (rfl : _ = AV.ref _ _ _)) ?_
     refine DL_c (op_mv _ (rfl : _ = AV.sl _ _)) ?_
     refine DL_c (op_mv _ (rfl : _ = AV.v (.int _ _))) ?_
     refine DL_c (op_ixS _ _ inferInstance rfl rfl _ rfl (by omega) (by (simp only [isl_len, bsl_len, psl_len, mrows_len, nsl_len, ws_len, List.length_map, ul_len, psl_len, isl_len, nrows_len, prL_len, blR_len, stK_len, inh1_len, st0_len]; omega)) (by exact Nat.mul_one _)) ?_
     refine DL_c (op_ldF _ inferInstance rfl (by exact (nsl_get _ _ (by omega)).trans (by rw [← hu])) rfl) ?_
     refine DL_c (op_ixR _ _ inferInstance rfl rfl rfl u rfl (by omega) (by exact (Nat.zero_add _).trans (Nat.mul_one _))) ?_
     refine DL_c (op_ldR _ inferInstance rfl rfl (by exact isl_get _ _ (by omega)) rfl) ?_
     refine DL_c (op_eql _ _ rfl rfl rfl) ?_
     refine DL_c (op_mv _ (rfl : _ = AV.v (.bool _))) ?_
     refine DL_caseC (fun hg55 => ?_) (fun hg55 => ?_)
     ·skip
      refine DL_cy rfl rfl (op_mv _ (rfl : _ = AV.ref _ _ _)) ?_
      refine DL_cy rfl rfl (op_mv _ (rfl : _ = AV.v (.int _ _))) ?_
      refine DL_cy rfl rfl (op_ixR _ _ inferInstance rfl rfl rfl k rfl (by omega) (by exact (Nat.zero_add _).trans (Nat.mul_one _))) ?_
      refine DL_cy rfl rfl (op_ldR _ inferInstance rfl rfl (by exact isl_get _ _ (by omega)) rfl) ?_
      refine DL_cy rfl rfl (op_eql _ _ rfl rfl rfl) ?_
      refine DL_c (op_pick _ _ _ rfl (rfl : _ = AV.v (.bool _))) ?_
      refine DL_nil (hK19 _ ?_)
      clear hK19; try clear K19
      refine D_splitC rfl (fun hc61 => ?_) (fun hc61 => ?_)
      ·skip
       refine D_le (σ' := mkStI 66 [(0, _), (2, _), (7, _), (10, _), (11, _), (12, _)] [((7, 0), _)] [] []) (by
        refine Le.mkJ [] [] rfl ?_ ?_ trivial trivial ?_
        ·exact ⟨(iS rfl), (iV rfl), (iR rfl), (iV rfl), (iS rfl), (iV rfl), trivial⟩
        ·exact ⟨(obE rfl rfl rfl), trivial⟩
        ·kernel_rfl) ?_
       refine D_region ?_
       refine DL_c (op_mv _ (rfl : _ = AV.ref _ _ _)) ?_
       refine DL_c (op_mv _ (rfl : _ = AV.v (.int _ _))) ?_
       refine DL_c (op_ixR _ _ inferInstance rfl rfl rfl k rfl (by omega) (by exact (Nat.zero_add _).trans (Nat.mul_one _))) ?_
       refine DL_c (op_stR _ _ inferInstance rfl rfl rfl rfl rfl (by (simp only [isl_len, bsl_len, psl_len, mrows_len, nsl_len, ws_len, List.length_map, ul_len, psl_len, isl_len, nrows_len, prL_len, blR_len, stK_len, inh1_len, st0_len, List.length_cons, List.length_nil]; omega)) rfl) ?_
       refine DL_nil (hK18 _ ?_)
       clear hK18; try clear K18
       refine D_region ?_
       refine DL_c (op_mv _ (rfl : _ = AV.v (.int _ _))) ?_
       refine DL_c (op_add _ _ rfl rfl (i64w (by omega))) ?_
       refine DL_c (op_as _ (rfl : _ = AV.v (.int _ _))) ?_
       refine DL_nil ?_
       refine ⟨j + 1, ?_, ?_, ?_⟩
       ·omega
       ·skip
        refine Le.mkJ [] [] rfl ?_ ?_ trivial trivial ?_
        ·exact ⟨(iS rfl), (iV rfl), (iR rfl), (iV rfl), (iS rfl), (lvI (by rfl)), trivial⟩
        ·exact ⟨(obR rfl rfl rfl (by rw [hin, if_pos ⟨hg55, hc61⟩, isl_put _ _ _ (by omega)])), trivial⟩
        ·kernel_rfl
       ·omega
      ·skip
       refine D_skip (hK18 _ ?_)
       clear hK18; try clear K18
       refine D_le (σ' := mkStI 66 [(0, _), (2, _), (7, _), (10, _), (11, _), (12, _)] [((7, 0), _)] [] []) (by
        refine Le.mkJ [] [] rfl ?_ ?_ trivial trivial ?_
        ·exact ⟨(iS rfl), (iV rfl), (iR rfl), (iV rfl), (iS rfl), (iV rfl), trivial⟩
        ·exact ⟨(obE rfl rfl rfl), trivial⟩
        ·kernel_rfl) ?_
       refine D_region ?_
       refine DL_c (op_mv _ (rfl : _ = AV.v (.int _ _))) ?_
       refine DL_c (op_add _ _ rfl rfl (i64w (by omega))) ?_
       refine DL_c (op_as _ (rfl : _ = AV.v (.int _ _))) ?_
       refine DL_nil ?_
       refine ⟨j + 1, ?_, ?_, ?_⟩
       ·omega
       ·skip
        refine Le.mkJ [] [] rfl ?_ ?_ trivial trivial ?_
        ·exact ⟨(iS rfl), (iV rfl), (iR rfl), (iV rfl), (iS rfl), (lvI (by rfl)), trivial⟩
        ·exact ⟨(obR rfl rfl rfl (by rw [hin, if_neg (fun h => hc61 h.2)])), trivial⟩
        ·kernel_rfl
       ·omega
     ·skip
      refine DL_cn rfl rfl (by decide) ?_
      refine DL_cn rfl rfl (by decide) ?_
      refine DL_cn rfl rfl (by decide) ?_
      refine DL_cn rfl rfl (by decide) ?_
      refine DL_cn rfl rfl (by decide) ?_
      refine DL_c (op_pick _ _ _ rfl (rfl : _ = AV.v (.bool _))) ?_
      refine DL_nil (hK19 _ ?_)
      clear hK19; try clear K19
      refine D_cF rfl rfl ?_
      refine D_skip (hK18 _ ?_)
      clear hK18; try clear K18
      refine D_le (σ' := mkStI 66 [(0, _), (2, _), (7, _), (10, _), (11, _), (12, _)] [((7, 0), _)] [] []) (by
       refine Le.mkJ [] [] rfl ?_ ?_ trivial trivial ?_
       ·exact ⟨(iS rfl), (iV rfl), (iR rfl), (iV rfl), (iS rfl), (iV rfl), trivial⟩
       ·exact ⟨(obE rfl rfl rfl), trivial⟩
       ·kernel_rfl) ?_
      refine D_region ?_
      refine DL_c (op_mv _ (rfl : _ = AV.v (.int _ _))) ?_
      refine DL_c (op_add _ _ rfl rfl (i64w (by omega))) ?_
      refine DL_c (op_as _ (rfl : _ = AV.v (.int _ _))) ?_
      refine DL_nil ?_
      refine ⟨j + 1, ?_, ?_, ?_⟩
      ·omega
      ·skip
       refine Le.mkJ [] [] rfl ?_ ?_ trivial trivial ?_
       ·exact ⟨(iS rfl), (iV rfl), (iR rfl), (iV rfl), (iS rfl), (lvI (by rfl)), trivial⟩
       ·exact ⟨(obR rfl rfl rfl (by rw [hin, if_neg (fun h => hg55 h.1)])), trivial⟩
       ·kernel_rfl
      ·omega
    ·skip
     have hjl : (upE Ps k).take j = upE Ps k := List.take_of_length_le (by omega)
     refine D_exit ?_
     refine id (hK13 _ ?_)
     clear hK13; try clear K13
     refine D_region ?_
     refine DL_c (op_mv _ (rfl : _ = AV.v (.int _ _))) ?_
     refine DL_c (op_add _ _ rfl rfl (i64w (by omega))) ?_
     refine DL_c (op_as _ (rfl : _ = AV.v (.int _ _))) ?_
     refine DL_nil ?_
     refine ⟨k + 1, ?_, ?_, ?_⟩
     ·omega
     ·skip
      refine Le.mkJ [] [] rfl ?_ ?_ trivial trivial ?_
      ·exact ⟨(iS rfl), (iV rfl), (iR rfl), (lvI (by rfl)), trivial⟩
      ·exact ⟨(obR rfl rfl rfl (by rw [hss, hjl])), trivial⟩
      ·kernel_rfl
     ·omega
   ·skip
    have hfin : stK Ps l b k = status32 Ps l b := by
     have hb : b = false := by simpa using hc35
     subst hb; exact stK_false Ps l k _
    refine D_exit ?_
    refine id (hK9 _ ?_)
    clear hK9; try clear K9
    refine D_seq fun K20 hK20 => ?_
    refine D_region ?_
    refine DL_c (op_mv _ (rfl : _ = AV.ref _ _ _)) ?_
    refine DL_c (op_as _ (rfl : _ = AV.ref _ _ _)) ?_
    refine DL_nil (hK20 _ ?_)
    clear hK20; try clear K20
    refine D_ret ?_
    rw [← hfin]
    exact ret1 (.inr rfl) rfl (.tmp (rfl : _ = AV.ref _ _ _)) (Le.out [] [(7, 0)] (frz0 rfl rfl (by rw [isl_len, stK_len, hPl]; exact Nat.mul_one _) rfl) rfl rfl rfl ⟨rfl, trivial⟩ trivial)
  ·skip
   have hfin : stK Ps l b k = status32 Ps l b := by rw [status32, hPl, show k = v by omega]
   refine DL_cn rfl rfl (by decide) ?_
   refine DL_c (op_pick _ _ _ rfl (rfl : _ = AV.v (.bool _))) ?_
   refine DL_nil (hK12 _ ?_)
   clear hK12; try clear K12
   refine D_cF rfl rfl ?_
   refine D_exit ?_
   refine id (hK9 _ ?_)
   clear hK9; try clear K9
   refine D_seq fun K21 hK21 => ?_
   refine D_region ?_
   refine DL_c (op_mv _ (rfl : _ = AV.ref _ _ _)) ?_
   refine DL_c (op_as _ (rfl : _ = AV.ref _ _ _)) ?_
   refine DL_nil (hK21 _ ?_)
   clear hK21; try clear K21
   refine D_ret ?_
   rw [← hfin]
   exact ret1 (.inr rfl) rfl (.tmp (rfl : _ = AV.ref _ _ _)) (Le.out [] [(7, 0)] (frz0 rfl rfl (by rw [isl_len, stK_len, hPl]; exact Nat.mul_one _) rfl) rfl rfl rfl ⟨rfl, trivial⟩ trivial)
end Go.Proofs.Ytkbkmngbenohkaa

namespace Go.Proofs.Ytkbkmngbenohkaa
open Go.RowKit

theorem upE_eq {Ps : List (List Int)} (h64 : Ps.length ≤ 64) {v : Nat} (hv : v < Ps.length) : upE Ps v = (List.range Ps.length).filter fun u => decide (u = v) || cl (edg Ps Ps.length 0) u v := by
 unfold upE wat
 rw [if_pos (by omega), Int.toNat_natCast, ancW_get hv, aw1, els_cw h64]
theorem upE_trans {Ps : List (List Int)} (h64 : Ps.length ≤ 64) {u v w : Nat} (hv : v < Ps.length) (hw : w < Ps.length) (h1 : u ∈ upE Ps v) (h2 : v ∈ upE Ps w) : u ∈ upE Ps w := by
 obtain ⟨h3, h4⟩ := (upE_mem h64 hv).1 h1
 obtain ⟨_, h5⟩ := (upE_mem h64 hw).1 h2
 refine (upE_mem h64 hw).2 ⟨h3, ?_⟩
 rcases h4 with rfl | h4
 ·exact h5
 ·rcases h5 with rfl | h5
  ·exact .inr h4
  ·exact .inr (h4.trans h5)
theorem minL_fst (n : Nat) (E : Prs) (st : List Int) (l : List Nat) : (minL n E st l).map (·.1) = l.filter fun v => (aw1 n E v &&& whr st 1) == 2 ^ v := by
 unfold minL
 rw [List.map_map]
 have : ((fun x => x.1) ∘ fun (v : Nat) => (v, els (susW n E (whr st 2).testBit v))) = id := rfl
 rw [this, List.map_id]
theorem minL_mem {n : Nat} {E : Prs} {st : List Int} {l : List Nat} {b : Nat × List Nat} (h : b ∈ minL n E st l) : b.1 ∈ l ∧ (aw1 n E b.1 &&& whr st 1) = 2 ^ b.1 ∧ b.2 = els (susW n E (whr st 2).testBit b.1) := by
 unfold minL at h
 obtain ⟨v, hv, rfl⟩ := List.mem_map.1 h
 obtain ⟨h1, h2⟩ := List.mem_filter.1 hv
 exact ⟨h1, by simpa using h2, rfl⟩
theorem minL_of {n : Nat} {E : Prs} {st : List Int} {l : List Nat} {v : Nat} (h1 : v ∈ l) (h2 : (aw1 n E v &&& whr st 1) = 2 ^ v) : v ∈ (minL n E st l).map (·.1) := by
 rw [minL_fst, List.mem_filter]
 exact ⟨h1, by simpa using h2⟩
theorem getD_mem' {α : Type} {l : List α} {k : Nat} (d : α) (h : k < l.length) : l.getD k d ∈ l := by
 rw [List.getD_eq_getElem?_getD, List.getElem?_eq_getElem h]; exact List.getElem_mem h
/-- Above each bad version one to blame. -/
theorem blame_ex {Ps : List (List Int)} (h64 : Ps.length ≤ 64) (hlt : ∀ {a b : Nat}, Clo (edg Ps Ps.length 0) a b → a < b) {st : List Int} (hst : st.length = Ps.length) {h u : Nat} (hh : h < Ps.length) (hu : u ∈ upE Ps h) (hs : st.getD u 0 = 1) :
  ∃ w ∈ upE Ps u, w ∈ (minL Ps.length (edg Ps Ps.length 0) st (upE Ps h)).map (·.1) := by
 have hun := ((upE_mem h64 hh).1 hu).1
 obtain ⟨w, _, h1, h2⟩ := least_of (p := fun w => decide (w ∈ upE Ps u) && decide (st.getD w 0 = 1)) (n := Ps.length) ⟨u, hun, by
  rw [Bool.and_eq_true, decide_eq_true_eq, decide_eq_true_eq]
  exact ⟨(upE_mem h64 hun).2 ⟨hun, .inl rfl⟩, hs⟩⟩
 rw [Bool.and_eq_true, decide_eq_true_eq, decide_eq_true_eq] at h1
 have hwn := ((upE_mem h64 hun).1 h1.1).1
 refine ⟨w, h1.1, minL_of (upE_trans h64 hun hh h1.1 hu) ((rmin_iff h64 hst hwn).1 ⟨h1.2, fun x hx hne hs1 => ?_⟩)⟩
 have hxw : x < w := by
  rcases ((upE_mem h64 hwn).1 hx).2 with h3 | h3
  ·exact absurd h3 hne
  ·exact hlt h3
 have := h2 x hxw
 rw [Bool.and_eq_false_iff, decide_eq_false_iff_not, decide_eq_false_iff_not] at this
 rcases this with h3 | h3
 ·exact h3 (upE_trans h64 hwn hun hx h1.1)
 ·exact h3 hs1
end Go.Proofs.Ytkbkmngbenohkaa

namespace Go.Proofs.Ytkbkmngbenohkaa
open Go.RowKit

/-- The graph of a list of parents, as New makes it. -/
theorem newN_spec {n : Nat} {Ps : List (List Int)} (h : Near Ps) (hn : Ps.length = n) :
  Spec Try.prog 58 (inSt [.sl n (nrows Ps)] []) (outSt (.tup [.fp 0 (gra n (parW Ps) (ancW n (edg Ps n 0))), .v (.int .i64 0)]) []) := by
 subst hn
 have h14 := h.n
 have hN := vnew_spec Ps.length Ps rfl (by omega) (fun v => by have := h.rows v; omega) fun hV _ a _ => by
  rw [nxt_edg a Ps.length fun v hv => (hV v hv).1, List.length_map]
  exact Nat.le_trans (filter_few (a := a) (m := 4) _ fun v hp => by
   rw [decide_eq_true_eq] at hp
   by_cases hv : v < Ps.length
   ·have := (h.r v hv).1.b _ hp; omega
   ·rw [List.getD_eq_getElem?_getD, List.getElem?_eq_none (by omega)] at hp; cases hp) (by decide)
 rw [newV_ok (by omega) h.valid h.acyc] at hN
 exact hN
theorem minN_spec {n : Nat} {Ps : List (List Int)} (hG : GG n Ps) (st : List Int) (hst : st.length = n) (v : Nat) :
  Spec Try.prog 59 (inSt [.fp 0 (gra n (parW Ps) (ancW n (edg Ps n 0))), .v (.int .i64 (v : Int)), .sl n (isl st)] []) (outSt (.sl (minL n (edg Ps n 0) st (upE Ps v)).length (blR (minL n (edg Ps n 0) st (upE Ps v)))) []) := by
 obtain ⟨hPs, hn, hV, _, _⟩ := hG
 subst hPs
 exact minimal_spec _ _ _ (parW_pw hV hn) st hst v
theorem minL_len2 (n : Nat) (E : Prs) (st : List Int) (l : List Nat) (i : Nat) : ((minL n E st l).getD i (0, [])).2.length ≤ 1000 := by
 by_cases h : i < (minL n E st l).length
 ·rw [(minL_mem (getD_mem' (0, []) h)).2.2]
  have := els_len (susW n E (whr st 2).testBit ((minL n E st l).getD i (0, [])).1)
  omega
 ·rw [List.getD_eq_getElem?_getD, List.getElem?_eq_none (by omega)]; exact Nat.zero_le _
end Go.Proofs.Ytkbkmngbenohkaa

namespace Go.Proofs.Ytkbkmngbenohkaa
open Go.RowKit

section
variable {P : Program} {σ τ : St}
/-- σ with the objects of τ beside its own. -/
def St.join (σ τ : St) : St := { σ with ob := fun id => orFree (σ.ob id) (τ.ob id) }
theorem orFree_l {s : Slot} (h : s = .free) (t : Slot) : orFree s t = t := by rw [h]; rfl
theorem orFree_r {s t : Slot} (h : t = .free) : orFree s t = s := by rw [h]; cases s <;> rfl
open Classical in
theorem RelI.join {K Kc : Ctx} {ι ι2 : Oid → Option Blk} {S S2 T : Nat → Prop} {a : Act} {w w' : World} {v : Value} (R : RelI K ι S σ a w) (R2 : RelI Kc ι2 S2 τ ⟨#[v], []⟩ w') (hw : Kc.w0 = w) (hown : ∀ g, ¬ Kc.own g)
  (hTS : ∀ g, T g → S2 g) (hT : ∀ g, T g → S g ∨ w.heap.size ≤ g) (hob : ∀ id o, τ.ob id = .obj o → ObjOk ι2 T w' id o) (hinc : ∀ id, τ.inc id = false) (hdis : ∀ id, τ.ob id = .free ∨ σ.ob id = .free) :
  RelI K (fun id => if τ.ob id = .free then ι id else ι2 id) (fun g => S g ∨ T g) (σ.join τ) a w' := by
 subst hw
 have hb : Below Kc.w0.heap.size Kc.w0 w' := ⟨R2.keeps.os, R2.keeps.tape, R2.keeps.output, R2.keeps.size, fun g hg => R2.keeps.block g hg (hown g)⟩
 have hfre : ∀ {id}, τ.ob id ≠ .free → σ.ob id = .free := fun {id} h => (hdis id).resolve_left h
 have hge : ∀ id B g, ι2 id = some B → B.g = some g → Kc.w0.heap.size ≤ g := fun id B g h1 h2 => (R2.sep id B g h1 h2).2.2 (hinc id)
 refine R.gen (fun id => τ.ob id ≠ .free) (.of_below hb) (fun id h => ?_) (fun id h => ?_) (fun _ _ => rfl) (fun id h => ?_) (fun g h => .inl h) (fun g h => ?_) (fun g h => ?_) (fun id B h _ => .inr (hfre h)) (fun id o h ho => ?_) (fun id B h hB => ?_) (fun id id' B B' g h hB hB' hg hg' => ?_) (fun id B g h hB hg => ?_) (fun id x o h hp => ?_)
 ·simp only [ne_eq, Decidable.not_not] at h; simp [h]
 ·simp only [ne_eq, Decidable.not_not] at h
  exact orFree_r h
 ·revert h
  show orFree _ _ = _ → _
  cases σ.ob id <;> intro h <;> first | rfl | cases h
 ·rcases h with h | h
  ·exact .inl h
  ·exact (hT g h).imp id .inl
 ·rcases h with h | h
  ·exact Nat.lt_of_lt_of_le (R.Slt g h) hb.size
  ·exact R2.Slt g (hTS g h)
 ·have e : orFree (σ.ob id) (τ.ob id) = .obj o := ho
  rw [orFree_l (hfre h)] at e
  refine ⟨(hob id o e).next (by simp [h]) (fun _ _ _ _ => rfl) (fun _ _ => rfl) (fun g hg => .inr hg) (fun id' B hi hB => ?_), fun id' hi => ?_⟩
  ·have hn := R2.clo id o id' e hi
   simpa [hn] using hB
  ·have hn := R2.clo id o id' e hi
   show orFree _ _ ≠ _
   rw [orFree_l (hfre hn)]; exact hn
 ·rw [if_neg h] at hB
  obtain ⟨o, ho⟩ := R2.dom id B hB
  exact ⟨o, by show orFree _ _ = _; rw [orFree_l (hfre h)]; exact ho⟩
 ·rw [if_neg h] at hB
  by_cases h' : τ.ob id' = .free
  ·rw [if_pos h'] at hB'
   have := R.lt hB' hg'
   have := hge id B g hB hg
   omega
  ·rw [if_neg h'] at hB'
   exact R2.inj id id' B B' g hB hB' hg hg'
 ·rw [if_neg h] at hB
  have h1 := hge id B g hB hg
  refine ⟨fun hs => ?_, .inr (Nat.le_trans R.keeps.size h1), fun _ => Nat.le_trans R.keeps.size h1⟩
  rcases hs with hs | hs
  ·have := R.Slt g hs; omega
  ·exact (R2.sep id B g hB hg).1 (hTS g hs)
 ·rw [R.pf id (hfre h)] at hp; cases hp
variable {o : Oper}
/-- What comes back is a row under a name of the caller's. -/
theorem Spec.named {f : FuncId} {σ0 : St} (id : Oid) {n : Nat} {e : TypeId} {sz : Nat} {xs : List PV} (h : Spec P f σ0 (outSt (.ref (0, 8) 0 n) [((0, 8), .row e sz xs)])) : Spec P f σ0 (outSt (.ref id 0 n) [(id, .row e sz xs)]) := by
 have h1 : rnOf [(id, (0, 8))] id = (0, 8) := by simp [rnOf, oeq_self]
 have h2 : inO id [id] = true := by simp [inO, oeq_self]
 refine h.mono (Le.outO (I := []) (Pn := []) [(id, (0, 8))] [] (lvRr h1 rfl) ?_ rfl ?_ trivial ⟨⟨?_, ⟨_, ?_, .rowE rfl⟩, ?_⟩, trivial⟩)
 ·simp [AV.within, h2]
 ·simp [nodupO, inO]
 ·rfl
 ·rw [h1]; rfl
 ·rfl
end
end Go.Proofs.Ytkbkmngbenohkaa

namespace Go.Proofs.Ytkbkmngbenohkaa
open Go.RowKit

/-- A map's entries, in the order of their stores. -/
def mentK : List (Int × Value) → Nat → List MapEntry
 | [], _ => []
 | p :: l, i => ⟨.int .i64 p.1, p.2, i⟩ :: mentK l (i + 1)
def ment (M : List (Int × Value)) : List MapEntry := mentK M 0
theorem mentK_len : ∀ (M : List (Int × Value)) (i : Nat), (mentK M i).length = M.length
 | [], _ => rfl
 | p :: l, i => by simp [mentK, mentK_len l]
@[simp] theorem ment_len (M : List (Int × Value)) : (ment M).length = M.length := mentK_len M 0
theorem mentK_get : ∀ (M : List (Int × Value)) (i j : Nat), (mentK M i)[j]? = (M[j]?).map fun p => ⟨.int .i64 p.1, p.2, i + j⟩
 | [], _, _ => by simp [mentK]
 | p :: l, i, 0 => by simp [mentK]
 | p :: l, i, j + 1 => by
  simp only [mentK, List.getElem?_cons_succ, mentK_get l]
  rw [show i + 1 + j = i + (j + 1) by omega]
theorem ment_get (M : List (Int × Value)) (j : Nat) : (ment M)[j]? = (M[j]?).map fun p => ⟨.int .i64 p.1, p.2, j⟩ := by rw [ment, mentK_get, Nat.zero_add]
theorem mentK_app : ∀ (M : List (Int × Value)) (p : Int × Value) (i : Nat), mentK (M ++ [p]) i = mentK M i ++ [⟨.int .i64 p.1, p.2, i + M.length⟩]
 | [], p, i => rfl
 | q :: l, p, i => by
  simp only [List.cons_append, mentK, mentK_app l, List.length_cons]
  rw [show i + 1 + l.length = i + (l.length + 1) by omega]
theorem ment_app (M : List (Int × Value)) (p : Int × Value) : ment (M ++ [p]) = ment M ++ [⟨.int .i64 p.1, p.2, M.length⟩] := by rw [ment, mentK_app, Nat.zero_add]; rfl
def fndK (k : Int) : List (Int × Value) → Nat → Option (Nat × Value)
 | [], _ => none
 | p :: l, i => if k = p.1 then some (i, p.2) else fndK k l (i + 1)
/-- What the map has at a key. -/
def mget (M : List (Int × Value)) (k : Int) : Option Value := (fndK k M 0).map (·.2)
theorem fndK_none {k : Int} : ∀ {M : List (Int × Value)} {i : Nat}, (∀ p ∈ M, p.1 ≠ k) → fndK k M i = none
 | [], _, _ => rfl
 | p :: l, i, h => by
  rw [fndK, if_neg (fun e => h p List.mem_cons_self e.symm)]
  exact fndK_none fun q hq => h q (List.mem_cons_of_mem _ hq)
theorem mget_none {M : List (Int × Value)} {k : Int} (h : ∀ p ∈ M, p.1 ≠ k) : mget M k = none := by rw [mget, fndK_none h]; rfl
theorem fndK_some {k : Int} {v : Value} : ∀ {M : List (Int × Value)} {i : Nat}, (∃ p ∈ M, p.1 = k) → (∀ p ∈ M, p.1 = k → p.2 = v) → ∃ j, fndK k M i = some (j, v)
 | [], _, h, _ => by obtain ⟨_, h, _⟩ := h; cases h
 | p :: l, i, h, hv => by
  by_cases hk : k = p.1
  ·exact ⟨i, by rw [fndK, if_pos hk, hv p List.mem_cons_self hk.symm]⟩
  ·rw [fndK, if_neg hk]
   obtain ⟨q, hq, hqk⟩ := h
   rcases List.mem_cons.1 hq with rfl | hq
   ·exact absurd hqk.symm hk
   ·exact fndK_some ⟨q, hq, hqk⟩ fun p hp => hv p (List.mem_cons_of_mem _ hp)
theorem mget_some {M : List (Int × Value)} {k : Int} {v : Value} (h : ∃ p ∈ M, p.1 = k) (hv : ∀ p ∈ M, p.1 = k → p.2 = v) : mget M k = some v := by
 obtain ⟨j, hj⟩ := fndK_some (i := 0) h hv
 rw [mget, hj]; rfl
theorem findNow_ment (k : Int) : ∀ (M : List (Int × Value)) (b i : Nat), Instr.findNow (.int .i64) (.int .i64 k) (mentK M b) i = some (fndK k M i)
 | [], _, _ => rfl
 | p :: l, b, i => by
  simp only [mentK, Instr.findNow, Instr.sameNow, if_true, fndK]
  by_cases h : k = p.1
  ·simp [h]
  ·simp only [beq_eq_false_iff_ne.2 h, if_neg h]
   exact findNow_ment k l (b + 1) (i + 1)

variable {P : Program} {T k e : TypeId}
theorem run_chk {w : World} {b : Bool} {v : Value} (hk : P.underlying k = some (.int .i64)) : (Instr.checkKey b 10000 k v).run P w = .ok () w := by
 rw [show (10000 : Nat) = 9999 + 1 from rfl, Instr.checkKey]
 simp [run_underlying hk]
theorem run_fnd {w : World} {M : List (Int × Value)} {x : Int} (hk : P.underlying k = some (.int .i64)) : (Instr.findKey k (.int .i64 x) (ment M)).run P w = .ok (fndK x M 0) w := by
 simp [Instr.findKey, run_underlying hk, ment, findNow_ment]
theorem run_lookM {w : World} {g : Nat} {M : List (Int × Value)} {c : Nat} {x : Int} {z : Value} (ok : Bool) (hT : P.underlying T = some (.map k e)) (hk : P.underlying k = some (.int .i64)) (hz : (zeroValue e).run P w = .ok z w) (hb : w.heap[g]? = some (.map (ment M).toArray c)) :
  (Instr.lookup T (.map (some g)) (.int .i64 x) ok).run P w = .ok (if ok then .tuple #[(mget M x).getD z, .bool (mget M x).isSome] else (mget M x).getD z) w := by
 simp only [Instr.lookup, Sem.run_bind, run_underlying hT, Result.andThen_ok, getObj, Sem.run, hb, Result.andThen, run_chk hk, run_fnd hk, mget]
 cases h : fndK x M 0 with
 | none => simp [hz, run_fnd hk, h, Sem.run_map]
 | some p => obtain ⟨i, v⟩ := p; simp [run_fnd hk, h]
theorem run_updM {w : World} {g : Nat} {M : List (Int × Value)} {x : Int} {v : Value} (hT : P.underlying T = some (.map k e)) (hk : P.underlying k = some (.int .i64)) (hb : w.heap[g]? = some (.map (ment M).toArray M.length)) (hm : mget M x = none) :
  (Instr.mapUpdate T (.map (some g)) (.int .i64 x) v).run P w = .ok () (w.putObj g (.map (ment (M ++ [(x, v)])).toArray (M ++ [(x, v)]).length)) := by
 have hf : fndK x M 0 = none := by
  unfold mget at hm
  cases h : fndK x M 0 with
  | none => rfl
  | some p => rw [h] at hm; cases hm
 simp only [Instr.mapUpdate, Sem.run_bind, run_underlying hT, Result.andThen_ok, getObj, setObj, Sem.run, hb, Result.andThen, run_chk hk, run_fnd hk, hf, ment_app]
 simp [World.putObj]

section
variable {σ : St}
theorem RelI.mapAt {K : Ctx} {ι : Oid → Option Blk} {S : Nat → Prop} {a : Act} {w : World} (R : RelI K ι S σ a w) {x : Operand} {id : Oid} (hx : σ.eval x = .mp id) {es : List MapEntry} {c : Nat} (hid : σ.ob id = .obj (.mp es c)) :
  ∃ B g, ι id = some B ∧ B.g = some g ∧ a.eval x = .map (some g) ∧ w.heap[g]? = some (.map es.toArray c) := by
 obtain ⟨B, g, h1, h2, h3⟩ := R.ob id _ hid
 have hr := R.eval x
 rw [hx] at hr
 generalize hu : a.eval x = u at hr
 cases hr with
 | mp h _ =>
  obtain ⟨g', hg', rfl⟩ := h B h1
  rw [h2] at hg'
  obtain rfl := Option.some.inj hg'
  exact ⟨B, g, h1, h2, rfl, h3⟩
/-- A new map. -/
theorem op_mkM {dd : Option Tmp} {ty : TypeId} (id : Oid) (hid : σ.ob id = .free) : Stp P dd (.makeMap T none) ty σ ((σ.setOb id (.obj (.mp [] 0))).put dd (.mp id)) := by
 intro o hd ho ht
 subst hd
 intro K ι S a w R
 have hrun : (execOp a.eval o).run P w = .ok (.value (.map (some w.heap.size))) (w.alloc (.map #[] 0)) := by
  simp [execOp, ho, Instr.makeMap, newObj]; rfl
 have R1 := R.new (id := id) (o := .mp [] 0) (B := ⟨some w.heap.size, 0, 0⟩) hid ((Below.refl _ _).alloc (Nat.le_refl _) _) (fun g hg => by obtain rfl := Option.some.inj hg; exact Nat.le_refl _)
  ⟨_, _, setI_same _ _ _, rfl, heap_alloc_new w _⟩ (fun i hi => hi.elim)
 refine yields_value hrun ⟨_, S, R1.put o.dst (.mp (fun B hB => ?_) rfl) fun i hi => ?_⟩
 ·rw [setI_same] at hB
  obtain rfl := Option.some.inj hB
  exact ⟨_, rfl, rfl⟩
 ·cases hi; rw [St.setOb_same]; intro h; cases h
/-- A look at a map: what is there and whether. -/
theorem op_lookM {dd : Option Tmp} {ty : TypeId} (x y : Operand) (hT : P.underlying T = some (.map k e)) (hk : P.underlying k = some (.int .i64)) {z : Value} (hz : ∀ w, (zeroValue e).run P w = .ok z w) {id : Oid} {M : List (Int × Value)} {c : Nat} (hx : σ.eval x = .mp id) (hid : σ.ob id = .obj (.mp (ment M) c))
  {n : Int} (hy : σ.eval y = .v (.int .i64 n)) {r : Option Value} (hr : mget M n = r) : Stp P dd (.lookup T x y true) ty σ (σ.put dd (.tup [.v (r.getD z), .v (.bool r.isSome)])) := by
 intro o hd ho ht
 subst hd; subst hr
 refine step_val fun K ι S a w R => ?_
 obtain ⟨B, g, h1, h2, h3, h4⟩ := R.mapAt hx hid
 have hi := R.eval y
 rw [hy] at hi
 have hi := hi.toV
 refine ⟨_, by simp only [execOp, ho, h3, hi, run_lookM true hT hk (hz w) h4, Sem.run_map, Sem.run_bind, Sem.run_pure, Result.andThen_ok, if_true]; rfl, .tup rfl fun j b hb => ?_, fun i hi => ?_⟩
 ·match j, hb with
  | 0, hb => cases hb; exact .v
  | 1, hb => cases hb; exact .v
  | j + 2, hb => simp at hb
 ·cases hi with
  | tup hm h => simp at hm; rcases hm with rfl | rfl <;> cases h
theorem op_look1 {dd : Option Tmp} {ty : TypeId} (x y : Operand) (hT : P.underlying T = some (.map k e)) (hk : P.underlying k = some (.int .i64)) {z : Value} (hz : ∀ w, (zeroValue e).run P w = .ok z w) {id : Oid} {M : List (Int × Value)} {c : Nat} (hx : σ.eval x = .mp id) (hid : σ.ob id = .obj (.mp (ment M) c))
  {n : Int} (hy : σ.eval y = .v (.int .i64 n)) {r : Value} (hr : (mget M n).getD z = r) : Stp P dd (.lookup T x y false) ty σ (σ.put dd (.v r)) := by
 intro o hd ho ht
 subst hd; subst hr
 refine step_val fun K ι S a w R => ?_
 obtain ⟨B, g, h1, h2, h3, h4⟩ := R.mapAt hx hid
 have hi := R.eval y
 rw [hy] at hi
 have hi := hi.toV
 exact ⟨_, by simp only [execOp, ho, h3, hi, run_lookM false hT hk (hz w) h4, Sem.run_map, Sem.run_bind, Sem.run_pure, Result.andThen_ok, if_false]; rfl, .v, fun i hi => by cases hi⟩
/-- A store under a new key. -/
theorem op_updM {ty : TypeId} (x y v : Operand) (hT : P.underlying T = some (.map k e)) (hk : P.underlying k = some (.int .i64)) {id : Oid} {M M' : List (Int × Value)} {c c' : Nat} (hc : c = M.length) (hx : σ.eval x = .mp id) (hid : σ.ob id = .obj (.mp (ment M) c))
  {n : Int} (hy : σ.eval y = .v (.int .i64 n)) {u : Value} (hv : σ.eval v = .v u) (hr : mget M n = none) (hM : M ++ [(n, u)] = M') (hc' : M'.length = c') : Stp P none (.mapUpdate T x y v) ty σ ((σ.setOb id (.obj (.mp (ment M') c'))).put none .dead) := by
 intro o hd ho ht
 subst hc; subst hM; subst hc'
 intro K ι S a w R
 obtain ⟨B, g, h1, h2, h3, h4⟩ := R.mapAt hx hid
 have hi := R.eval y
 rw [hy] at hi
 have hi := hi.toV
 have hu := R.eval v
 rw [hv] at hu
 have hu := hu.toV
 have hrun : (execOp a.eval o).run P w = .ok .skip (w.putObj g (.map (ment (M ++ [(n, u)])).toArray (M ++ [(n, u)]).length)) := by
  simp only [execOp, ho, h3, hi, hu, run_updM hT hk h4 hr, Sem.run_map, Sem.run_bind, Sem.run_pure, Result.andThen_ok]
 have hot : ∀ k, k ≠ g → (w.putObj g (.map (ment (M ++ [(n, u)])).toArray (M ++ [(n, u)]).length)).heap[k]? = w.heap[k]? := fun k hk => World.putObj_heap_other hk
 have hk' : Keeps (fun k => B.g = some k) w (w.putObj g (.map (ment (M ++ [(n, u)])).toArray (M ++ [(n, u)]).length)) := ⟨rfl, rfl, rfl, by simp, fun k _ hn => hot k fun e => hn (e ▸ h2)⟩
 have R1 := R.upd (o' := .mp (ment (M ++ [(n, u)])) (M ++ [(n, u)]).length) hid h1 hk' ⟨B, g, h1, h2, by
  have := (Array.getElem?_eq_some_iff.1 h4).1
  simp [World.putObj, this]⟩ (fun i hi => hi.elim)
 refine yields_skip hrun ⟨ι, S, ?_⟩
 rw [hd]
 exact R1.put none .dead fun i hi => by cases hi
/-- The start of a range over a map. -/
theorem op_rangeM {dd : Option Tmp} {ty : TypeId} (it : Oid) (x : Operand) (hT : P.underlying T = some (.map k e)) {id : Oid} {es : List MapEntry} {c : Nat} (hx : σ.eval x = .mp id) (hid : σ.ob id = .obj (.mp es c)) (hit : σ.ob it = .free) :
  Stp P dd (.range T x) ty σ ((σ.setOb it (.obj (.it id c #[] c))).put dd (.ptr it 0)) := by
 intro o hd ho ht
 subst hd
 intro K ι S a w R
 obtain ⟨B, g, h1, h2, h3, h4⟩ := R.mapAt hx hid
 have hne : id ≠ it := fun h => by rw [h, hit] at hid; cases hid
 have hrun : (execOp a.eval o).run P w = .ok (.value (.pointer (some ⟨w.heap.size, 0, none⟩))) (w.alloc (.mapIter (some g) c #[] c)) := by
  simp [execOp, ho, h3, Instr.range, run_underlying hT, getObj, Sem.run, h4, Result.andThen, newObj]
 have R1 := R.new (id := it) (o := .it id c #[] c) (B := ⟨some w.heap.size, 0, 0⟩) hit ((Below.refl _ _).alloc (Nat.le_refl _) _) (fun g hg => by obtain rfl := Option.some.inj hg; exact Nat.le_refl _)
  ⟨_, _, setI_same _ _ _, rfl, g, heap_alloc_new w _, fun B' hB' => by rw [setI_ne _ _ hne, h1] at hB'; obtain rfl := Option.some.inj hB'; exact h2⟩ (fun i hi => by
   have : i = id := hi
   subst this; right; rw [hid]; intro h; cases h)
 refine yields_value hrun ⟨_, S, R1.put o.dst (.ptr (fun B hB => ?_) rfl) fun i hi => ?_⟩
 ·rw [setI_same] at hB
  obtain rfl := Option.some.inj hB
  exact ⟨_, rfl, rfl⟩
 ·cases hi; rw [St.setOb_same]; intro h; cases h

/-- One operation that may go several ways. -/
def StpN (P : Program) (d : Option Tmp) (op : Op) (ty : TypeId) (σ : St) (Φ : St → Prop) : Prop := ∀ o : Oper, o.dst = d → o.op = op → o.type = ty → ∀ K ι S a w, RelI K ι S σ a w → Yields P o a.eval w fun v w' => ∃ σ', Φ σ' ∧ ∃ ι' S', RelI K ι' S' σ' (a.put o.dst v) w'
theorem DL_cN {rb : Bool} {Q : Exit → St → Prop} {ops : Array Oper} {rest : List Oper} {Φ : St → Prop} {d : Option Tmp} {op : Op} {ty : TypeId} {p : String} {af : Array Edge} (hs : StpN P d op ty σ Φ) (h : ∀ σ', Φ σ' → DL rb P ops Q rest σ') : DL rb P ops Q (⟨d, op, ty, p, af, none⟩ :: rest) σ := by
 intro K a w hr ⟨ι, S, R⟩
 refine wpListIn_plain rfl fun Kx hK => wpIn_of_yields (hs _ rfl rfl rfl K ι S a w R) ?_
 rintro v w' ⟨σ', hΦ, ι', S', R'⟩
 exact hK _ _ (h σ' hΦ K _ _ hr ⟨ι', S', R'⟩)
theorem RelI.itAt {K : Ctx} {ι : Oid → Option Blk} {S : Nat → Prop} {a : Act} {w : World} (R : RelI K ι S σ a w) {x : Operand} {it m : Oid} (hx : σ.eval x = .ptr it 0) {s t c : Nat} {seen : Array Nat} {es : List MapEntry} (hit : σ.ob it = .obj (.it m s seen t)) (hm : σ.ob m = .obj (.mp es c)) :
  ∃ B g mg, ι it = some B ∧ B.g = some g ∧ a.eval x = .pointer (some ⟨g, 0, none⟩) ∧ w.heap[g]? = some (.mapIter (some mg) s seen t) ∧ w.heap[mg]? = some (.map es.toArray c) ∧ (∀ B', ι m = some B' → B'.g = some mg) := by
 obtain ⟨B, g, h1, h2, mg, h3, h4⟩ := R.ob it _ hit
 obtain ⟨B', g', h5, h6, h7⟩ := R.ob m _ hm
 have := h4 B' h5
 rw [h6] at this
 obtain rfl := Option.some.inj this
 have hr := R.eval x
 rw [hx] at hr
 generalize hu : a.eval x = u at hr
 cases hr with
 | ptr h _ =>
  obtain ⟨g2, hg2, rfl⟩ := h B h1
  rw [h2] at hg2
  obtain rfl := Option.some.inj hg2
  exact ⟨B, g, g', h1, h2, rfl, h3, h7, h4⟩
theorem keeps_putAt {w w1 : World} {g : Nat} {o : Obj} (h : w1 = w ∨ w1 = w.drew) (hg : g < w.heap.size) : Keeps (fun k => k = g) w (ChangeMaps.setBlock w1 g o) ∧ (ChangeMaps.setBlock w1 g o).heap[g]? = some o ∧ ∀ k, k ≠ g → (ChangeMaps.setBlock w1 g o).heap[k]? = w.heap[k]? := by
 have hh : w1.heap = w.heap := by rcases h with rfl | rfl <;> rfl
 have hot : ∀ k, k ≠ g → (ChangeMaps.setBlock w1 g o).heap[k]? = w.heap[k]? := fun k hk => by
  simp [ChangeMaps.setBlock, hh, Array.getElem?_setIfInBounds, Ne.symm hk]
 refine ⟨⟨?_, ?_, ?_, ?_, fun k _ hk => hot k hk⟩, ?_, hot⟩
 ·rcases h with rfl | rfl <;> rfl
 ·rcases h with rfl | rfl <;> rfl
 ·rcases h with rfl | rfl <;> rfl
 ·simp [ChangeMaps.setBlock, hh]
 ·simp [ChangeMaps.setBlock, hh, hg]
/-- The next entry of a range: one that is left, whichever; or none is left. -/
theorem op_nextM {dd : Option Tmp} {ty : TypeId} (x : Operand) {it m : Oid} {M : List (Int × Value)} {seen : Array Nat} {c t : Nat} (hx : σ.eval x = .ptr it 0) (hit : σ.ob it = .obj (.it m c seen t)) (hm : σ.ob m = .obj (.mp (ment M) c)) (hc : c = M.length) (ht : c ≤ t) :
  StpN P dd (.next x false) ty σ fun σ' => ((∀ i, i < M.length → i ∈ seen) ∧ σ' = σ.put dd (.tup [.v (.bool false)])) ∨
   ∃ i p, M[i]? = some p ∧ i ∉ seen ∧ σ' = (σ.setOb it (.obj (.it m c (seen.push i) c))).put dd (.tup [.v (.bool true), .v (.int .i64 p.1), .v p.2]) := by
 intro o hd ho hty
 subst hd; subst hc
 intro K ι S a w R
 obtain ⟨B, g, mg, h1, h2, h3, h4, h5, h6⟩ := R.itAt hx hit hm
 have hmem : ∀ (e : MapEntry), e ∈ ment M → ∃ i p, M[i]? = some p ∧ e = ⟨.int .i64 p.1, p.2, i⟩ := fun e he => by
  obtain ⟨i, hi, rfl⟩ := List.getElem_of_mem he
  have := List.getElem?_eq_getElem hi
  rw [ment_get] at this
  obtain ⟨p, hp, h⟩ := Option.map_eq_some_iff.1 this
  exact ⟨i, p, hp, h.symm⟩
 have hold : ∀ x ∈ (ment M).toArray.toList, x.born < M.length := fun x hx => by
  obtain ⟨i, p, hp, rfl⟩ := hmem x (by simpa using hx)
  exact (List.getElem?_eq_some_iff.1 hp).1
 rcases run_next_at (P := P) w o.type g mg M.length t seen (ment M).toArray M.length h4 h5 hold ht with ⟨h7, h8⟩ | ⟨e, he, w1, hw1, h8⟩
 ·have hrun : (execOp a.eval o).run P w = .ok (.value (.tuple #[.bool false])) w := by simp only [execOp, ho, h3, h8, Sem.run_map, Sem.run_bind, Sem.run_pure, Result.andThen_ok]
  refine yields_value hrun ⟨_, .inl ⟨fun i hi => ?_, rfl⟩, ι, S, R.put o.dst (.tup rfl fun j b hb => ?_) fun i hi => ?_⟩
  ·have h9 : (ment M)[i]? = some ⟨.int .i64 M[i].1, M[i].2, i⟩ := by rw [ment_get]; simp [hi]
   by_cases hs : i ∈ seen
   ·exact hs
   ·exfalso
    have : (⟨.int .i64 M[i].1, M[i].2, i⟩ : MapEntry) ∈ (leftOf (ment M).toArray seen).toList := by
     simp [leftOf, List.mem_of_getElem? h9, hs]
    have h10 := List.length_pos_of_mem this
    simp [h7] at h10
  ·cases j with
   | zero => cases hb; exact .v
   | succ j => simp at hb
  ·cases hi with
   | tup hm h => simp at hm; subst hm; cases h
 ·have hlt : g < w.heap.size := R.lt h1 h2
  obtain ⟨hk1, hk2, hk3⟩ := keeps_putAt (o := .mapIter (some mg) M.length (seen.push e.born) M.length) hw1 hlt
  have hl : e ∈ ment M ∧ e.born ∉ seen := by simpa [leftOf] using he
  obtain ⟨i, p, hp, rfl⟩ := hmem e hl.1
  have hrun : (execOp a.eval o).run P w = .ok (.value (.tuple #[.bool true, .int .i64 p.1, p.2])) (ChangeMaps.setBlock w1 g (.mapIter (some mg) M.length (seen.push i) M.length)) := by simp only [execOp, ho, h3, h8, Sem.run_map, Sem.run_bind, Sem.run_pure, Result.andThen_ok]
  have R1 := R.upd (o' := .it m M.length (seen.push i) M.length) hit h1 (hk1.mono fun k hk => by subst hk; exact h2) ⟨B, g, h1, h2, mg, hk2, h6⟩ (fun id' hi => by
   have : id' = m := hi
   subst this; rw [hm]; intro h; cases h)
  refine yields_value hrun ⟨_, .inr ⟨i, p, hp, hl.2, rfl⟩, ι, S, R1.put o.dst (.tup rfl fun j b hb => ?_) fun i hi => ?_⟩
  ·match j, hb with
   | 0, hb => cases hb; exact .v
   | 1, hb => cases hb; exact .v
   | 2, hb => cases hb; exact .v
   | j + 3, hb => simp at hb
  ·cases hi with
   | tup hm h => simp at hm; rcases hm with rfl | rfl | rfl <;> cases h
/-- The key and the value of the round. -/
theorem op_entryM {dd : Option Tmp} {ty : TypeId} (x : Operand) {it m : Oid} {M : List (Int × Value)} {seen : Array Nat} {s c i : Nat} {p : Int × Value} (hx : σ.eval x = .ptr it 0) (hit : σ.ob it = .obj (.it m s (seen.push i) c)) (hm : σ.ob m = .obj (.mp (ment M) c)) (hp : M[i]? = some p) :
  Stp P dd (.entry x) ty σ (σ.put dd (.tup [.v (.int .i64 p.1), .v p.2])) := by
 intro o hd ho hty
 subst hd
 refine step_val fun K ι S a w R => ?_
 obtain ⟨B, g, mg, h1, h2, h3, h4, h5, h6⟩ := R.itAt hx hit hm
 have he : (ment M)[i]? = some ⟨.int .i64 p.1, p.2, i⟩ := by rw [ment_get, hp]; rfl
 have hn : ((ment M).toArray.toList.map (·.born)).Nodup := by
  have : (ment M).map (·.born) = List.range M.length := by
   apply List.ext_getElem?
   intro j
   rw [List.getElem?_map, ment_get]
   by_cases hj : j < M.length
   ·simp [hj]
   ·simp [hj, List.getElem?_eq_none (Nat.le_of_not_lt hj)]
  simp only [this]
  exact List.nodup_range
 have h7 := run_entry_at (P := P) w g mg s seen (ment M).toArray c ⟨.int .i64 p.1, p.2, i⟩ h4 h5 (by simpa using List.mem_of_getElem? he) hn
 refine ⟨.tuple #[.int .i64 p.1, p.2], by simp only [execOp, ho, h3, h7, Sem.run_map, Sem.run_bind, Sem.run_pure, Result.andThen_ok], .tup rfl fun j b hb => ?_, fun i hi => ?_⟩
 ·match j, hb with
  | 0, hb => cases hb; exact .v
  | 1, hb => cases hb; exact .v
  | j + 2, hb => simp at hb
 ·cases hi with
  | tup hm h => simp at hm; rcases hm with rfl | rfl <;> cases h
end
end Go.Proofs.Ytkbkmngbenohkaa

namespace Go.Proofs.Ytkbkmngbenohkaa
open Go.RowKit Go.Shelf Go.Sort

def lay189 : Ren :=
  ⟨fun x => match x with
    | 189 => 121 | 125 => 138 | 257 => 137 | 128 => 149 | 129 => 150 | 294 => 140 | 295 => 141 | 296 => 142 | 297 => 143 | 298 => 144 | 299 => 145 | 216 => 146 | 300 => 147 | 301 => 148 | 328 => 152 | 329 => 153 | 330 => 154 | 331 => 155 | 332 => 156 | 215 => 157 | 343 => 158
    | n => n,
   fun x => match x with
    | 28 => 29 | 3 => 3 | 46 => 163 | 0 => 0 | 51 => 172 | 53 => 124 | 4 => 4 | 183 => 166 | 182 => 165 | 131 => 156 | 5 => 5 | 9 => 9 | 218 => 175 | 222 => 179 | 228 => 181 | 229 => 182
    | n => n,
   fun n => n⟩
theorem lays189 : Lays.n189 Try.prog lay189 :=
{ mixed := Eq.refl true, f125 := Eq.trans Try.func138 (congrArg some (Eq.refl (Body.n125 lay189))),
  f128 := Eq.trans Try.func149 (congrArg some (Eq.refl (Body.n128 lay189))),
  f129 := Eq.trans Try.func150 (congrArg some (Eq.refl (Body.n129 lay189))),
  f189 := Eq.trans Try.func121 (congrArg some (Eq.refl (Body.n189 lay189))),
  f215 := Eq.trans Try.func157 (congrArg some (Eq.refl (Body.n215 lay189))),
  f216 := Eq.trans Try.func146 (congrArg some (Eq.refl (Body.n216 lay189))),
  f257 := Eq.trans Try.func137 (congrArg some (Eq.refl (Body.n257 lay189))),
  f294 := Eq.trans Try.func140 (congrArg some (Eq.refl (Body.n294 lay189))),
  f295 := Eq.trans Try.func141 (congrArg some (Eq.refl (Body.n295 lay189))),
  f296 := Eq.trans Try.func142 (congrArg some (Eq.refl (Body.n296 lay189))),
  f297 := Eq.trans Try.func143 (congrArg some (Eq.refl (Body.n297 lay189))),
  f298 := Eq.trans Try.func144 (congrArg some (Eq.refl (Body.n298 lay189))),
  f299 := Eq.trans Try.func145 (congrArg some (Eq.refl (Body.n299 lay189))),
  f300 := Eq.trans Try.func147 (congrArg some (Eq.refl (Body.n300 lay189))),
  f301 := Eq.trans Try.func148 (congrArg some (Eq.refl (Body.n301 lay189))),
  f328 := Eq.trans Try.func152 (congrArg some (Eq.refl (Body.n328 lay189))),
  f329 := Eq.trans Try.func153 (congrArg some (Eq.refl (Body.n329 lay189))),
  f330 := Eq.trans Try.func154 (congrArg some (Eq.refl (Body.n330 lay189))),
  f331 := Eq.trans Try.func155 (congrArg some (Eq.refl (Body.n331 lay189))),
  f332 := Eq.trans Try.func156 (congrArg some (Eq.refl (Body.n332 lay189))),
  f343 := Eq.trans Try.func158 (congrArg some (Eq.refl (Body.n343 lay189))), t0 := Try.underlying0,
  a0 := Try.isAgg0, z0 := Try.sizeOf0, v0 := Try.zeroValue0, t3 := Try.underlying3, a3 := Try.isAgg3, z3 := Try.sizeOf3,
  v3 := Try.zeroValue3, t4 := Try.underlying4, a4 := Try.isAgg4, z4 := Try.sizeOf4, v4 := Try.zeroValue4,
  t5 := Try.underlying5, a5 := Try.isAgg5, z5 := Try.sizeOf5, v5 := Try.zeroValue5, t9 := Try.underlying9,
  a9 := Try.isAgg9, z9 := Try.sizeOf9, v9 := Try.zeroValue9, t28 := Try.underlying29, a28 := Try.isAgg29,
  z28 := Try.sizeOf29, v28 := Try.zeroValue29, t46 := Try.underlying163, a46 := Try.isAgg163, z46 := Try.sizeOf163,
  v46 := Try.zeroValue163, t51 := Try.underlying172, a51 := Try.isAgg172, z51 := Try.sizeOf172, v51 := Try.zeroValue172,
  t53 := Try.underlying124, a53 := Try.isAgg124, z53 := Try.sizeOf124, v53 := Try.zeroValue124,
  t131 := Try.underlying156, a131 := Try.isAgg156, z131 := Try.sizeOf156, v131 := Try.zeroValue156,
  t182 := Try.underlying165, a182 := Try.isAgg165, z182 := Try.sizeOf165, v182 := Try.zeroValue165,
  t183 := Try.underlying166, a183 := Try.isAgg166, z183 := Try.sizeOf166, v183 := Try.zeroValue166,
  t218 := Try.underlying175, a218 := Try.isAgg175, z218 := Try.sizeOf175, v218 := Try.zeroValue175,
  t222 := Try.underlying179, a222 := Try.isAgg179, z222 := Try.sizeOf179, v222 := Try.zeroValue179,
  t228 := Try.underlying181, a228 := Try.isAgg181, z228 := Try.sizeOf181, v228 := Try.zeroValue181,
  t229 := Try.underlying182, a229 := Try.isAgg182, z229 := Try.sizeOf182, v229 := Try.zeroValue182 }
theorem isl_ofCells {S : Nat → Prop} {w : World} {L : List Int} {cur : Array Value} (h : ∀ j, j < (isl L).length → ∃ u, cur[j]? = some u ∧ u.oneCell' = true ∧ ∀ p, (isl L)[j]? = some p → Rd S w p u) : cur.toList.take L.length = L.map (Value.int .i64) := by
  apply List.ext_getElem?
  intro j
  by_cases hj : j < L.length
  · obtain ⟨u, h1, _, h2⟩ := h j (by simpa using hj)
    have h3 : (isl L)[j]? = some (.v (.int .i64 L[j])) := by simp [isl, hj]
    have h4 := h2 _ h3
    cases h4
    rw [List.getElem?_take_of_lt hj, Array.getElem?_toList, h1]
    simp [hj]
  · rw [List.getElem?_take_eq_none (by omega), List.getElem?_eq_none (by simp; omega)]
theorem sortG_spec (n : Nat) (hn : n ≤ 4611686018427387903) (L : List Int) (hL : L.length = n) :
    Spec Try.prog 121 (inStI [.ref (0, 9) 0 n] [((0, 9), .row 3 1 (isl L))]) (outStI (.tup []) [((0, 9), .row 3 1 (isl (srt L)))] [(0, 9)] [(0, 9)]) := by
  by_cases h12 : n ≤ 12
  · exact sort_spec n h12 L hL
  intro K ι S vs w hK hrd R
  obtain ⟨B, hB, hsz, hrow⟩ := R.ob (0, 9) (.row 3 1 (isl L)) rfl
  have hvs := R.nt
  simp only [inStI, List.length_cons, List.length_nil] at hvs
  obtain ⟨v, rfl⟩ : ∃ v, vs = #[v] := by
    match vs, hvs with
    | ⟨[v]⟩, _ => exact ⟨v, rfl⟩
  have hv := R.fr 0 (by simp [inStI])
  simp only [inStI] at hv
  have hv : Rep ι S w (.ref (0, 9) 0 n) v := by simpa using hv
  rcases hrow with ⟨_, h0, _⟩ | ⟨g, cur, hg, hb, hcs, hle, hcell⟩
  · rw [isl_len] at h0; omega
  · cases hv with
    | ref hh h1 =>
      obtain ⟨c, hc1, hc2, hc3⟩ := hh B hB
      rw [hg] at hc3
      obtain ⟨o', rfl, ho, htot⟩ := hc3
      obtain rfl := ho.resolve_right (by omega)
      have htk := isl_ofCells hcell
      have hlt : g < w.heap.size := (Array.getElem?_eq_some_iff.1 hb).1
      subst hL
      have hC := Any.slices_Sort_int lays189 g 0 c L w (holds_of_blockI hb htk) hlt (by omega)
      refine hC.mono ?_
      rintro e w' ⟨rfl, m, os, rfl⟩
      have hgr := grownBy_sortedI (w := w) (g := g) (n := m) (os := os) (srt L).toArray
      have hkeep : Keeps (fun k => B.g = some k) w (grow (putRow (Value.int .i64) (Sort.ahead w m) g 0 (srt L).toArray) os) := (Keeps.grown hgr).mono fun k hk => by rw [hg]; exact hk
      have hnew := heap_sortedI (n := m) (os := os) (srt L).toArray hb
      have R1 := R.upd (o' := .row 3 1 (isl (srt L))) (id := (0, 9)) rfl hB hkeep ⟨B, hB, hsz, .inr ⟨g, _, hg, hnew, by simp [putCells, hcs], by simp [putCells] at hle ⊢; omega, fun j hj => ?_⟩⟩ (fun i hi => hi.elim)
      · have R2 := R1.put (some 0) (av := .tup []) (v := .tuple #[]) (.tup rfl fun j b hb => by simp at hb) (fun id hi => by cases hi with | tup hm _ => simp at hm)
        refine ⟨.tuple #[], ι, S, rfl, ?_⟩
        have e1 : ((inStI [.ref (0, 9) 0 L.length] [((0, 9), .row 3 1 (isl L))]).setOb (0, 9) (.obj (.row 3 1 (isl (srt L))))).put (some 0) (.tup []) = outStI (.tup []) [((0, 9), .row 3 1 (isl (srt L)))] [(0, 9)] [(0, 9)] := by
          refine St.eq rfl (fun t => ?_) (fun i => ?_) rfl rfl
          · show (bif Nat.beq t 0 then _ else _) = (bif Nat.beq t 0 then _ else _)
            cases h : Nat.beq t 0 with
            | true => rfl
            | false =>
              cases t with
              | zero => simp at h
              | succ t => simp [inStI, St.setOb]
          · show (bif oeq i (0, 9) then _ else bif oeq i (0, 9) then _ else Slot.free) = bif oeq i (0, 9) then _ else Slot.free
            cases oeq i (0, 9) <;> rfl
        rw [e1] at R2
        exact R2
      · have hj' : j < L.length := by simpa using hj
        refine ⟨.int .i64 ((srt L).getD j 0), ?_, rfl, fun p hp => ?_⟩
        · have htk2 := take_putCellsI cur (srt L) (by rw [srt_len]; rw [isl_len] at hle; exact hle)
          have h3 := congrArg (fun l => l[j]?) htk2
          simp only [srt_len] at h3
          rw [List.getElem?_take_of_lt hj', Array.getElem?_toList] at h3
          rw [h3]
          simp [List.getD_eq_getElem?_getD, hj']
        · rw [isl_get _ _ (by simpa using hj')] at hp
          cases hp
          exact .v rfl
end Go.Proofs.Ytkbkmngbenohkaa
