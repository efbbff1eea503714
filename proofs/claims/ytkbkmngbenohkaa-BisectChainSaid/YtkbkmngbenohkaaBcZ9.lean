/- Part 9 of the texts that the walk leans on: the machine, the walks, the plain laws. -/
import Derived.Maps.RangeRun
import Derived.Shelf.Sort.Plain
import Derived.Sort.OwnSortedInts
import Derived.Test.YtkbkmngbenohkaaBcZ8
set_option linter.unusedSimpArgs false
set_option linter.unusedVariables false
namespace Go.Proofs.Ytkbkmngbenohkaa
open Go.RowKit

def pwL (n : Nat) (Ps : List (List Int)) (v j : Nat) : List Nat := (List.range n).map fun u => if u < v then pw (Ps.getD u []) else if u = v then pw ((Ps.getD v []).take j) else 0
@[simp] theorem pwL_len (n : Nat) (Ps : List (List Int)) (v j : Nat) : (pwL n Ps v j).length = n := by simp [pwL]
theorem pwL_zero (n : Nat) (Ps : List (List Int)) : pwL n Ps 0 0 = List.replicate n 0 := by
 apply List.ext_getElem
 ·simp
 ·intro i h1 h2
  simp only [pwL, List.getElem_map, List.getElem_range, List.getElem_replicate]
  rw [if_neg (by omega)]
  split <;> rfl
theorem pwL_next (n : Nat) (Ps : List (List Int)) (v : Nat) : pwL n Ps v (Ps.getD v []).length = pwL n Ps (v + 1) 0 := by
 unfold pwL
 refine List.map_congr_left fun u _ => ?_
 rw [List.take_length, List.take_zero]
 by_cases h1 : u < v
 ·rw [if_pos h1, if_pos (by omega)]
 ·rw [if_neg h1]
  by_cases h2 : u = v
  ·subst h2; rw [if_pos rfl, if_pos (by omega)]
  ·rw [if_neg h2, if_neg (by omega)]
   split <;> rfl
theorem pwL_get {n : Nat} {Ps : List (List Int)} {v j : Nat} (h : v < n) : (pwL n Ps v j).getD v 0 = pw ((Ps.getD v []).take j) := by
 unfold pwL
 rw [List.getD_eq_getElem?_getD, List.getElem?_map, List.getElem?_range h, Option.map_some, Option.getD_some, if_neg (Nat.lt_irrefl _), if_pos rfl]
theorem pwL_getF {n : Nat} {Ps : List (List Int)} {v j u : Nat} (h : u < n) (hu : u < v) : (pwL n Ps v j).getD u 0 = pw (Ps.getD u []) := by
 unfold pwL
 rw [List.getD_eq_getElem?_getD, List.getElem?_map, List.getElem?_range h, Option.map_some, Option.getD_some, if_pos hu]
theorem pwL_succ {n : Nat} {Ps : List (List Int)} {v j b : Nat} (hj : j < (Ps.getD v []).length) (hb : (Ps.getD v []).getD j 0 = (b : Int)) : pwL n Ps v (j + 1) = (pwL n Ps v j).set v (pw ((Ps.getD v []).take j) ||| 2 ^ b) := by
 apply List.ext_getElem
 ·simp
 ·intro i h1 h2
  rw [List.getElem_set]
  simp only [pwL, List.getElem_map, List.getElem_range]
  by_cases h3 : v = i
  ·subst h3; rw [if_neg (Nat.lt_irrefl _), if_pos rfl, if_pos rfl, take1 0 hj, pw_snoc, hb, Int.toNat_natCast]
  ·rw [if_neg h3]
   by_cases h4 : i < v
   ·rw [if_pos h4, if_pos h4]
   ·rw [if_neg h4, if_neg (by omega), if_neg h4, if_neg (by omega)]
/-- The words of the parents. -/
def parW (Ps : List (List Int)) : List Nat := Ps.map pw
@[simp] theorem parW_len (Ps : List (List Int)) : (parW Ps).length = Ps.length := by simp [parW]
theorem pwL_full (Ps : List (List Int)) : pwL Ps.length Ps Ps.length 0 = parW Ps := by
 apply List.ext_getElem
 ·simp
 ·intro i h1 h2
  have hi : i < Ps.length := by simpa using h1
  simp only [pwL, parW, List.getElem_map, List.getElem_range]
  rw [if_pos hi, List.getD_eq_getElem?_getD, List.getElem?_eq_getElem hi]; rfl
theorem parW_get {Ps : List (List Int)} {v : Nat} (h : v < Ps.length) : (parW Ps).getD v 0 = pw (Ps.getD v []) := by
 simp [parW, List.getD_eq_getElem?_getD, h]
theorem pw_ok {n : Nat} (hn : n ≤ 64) {l : List Int} (h : OkP n l) : pw l < 18446744073709551616 := pw_lt l fun p hp => by have := h.2 p hp; omega
theorem parW_lt {Ps : List (List Int)} (hV : Valid Ps) (hn : Ps.length ≤ 64) (v : Nat) : (parW Ps).getD v 0 < 18446744073709551616 := by
 by_cases h : v < Ps.length
 ·rw [parW_get h]; exact pw_ok hn (hV v h)
 ·rw [List.getD_eq_getElem?_getD, List.getElem?_eq_none (by simp; omega)]; decide
theorem parW_bit {Ps : List (List Int)} (hV : Valid Ps) {v : Nat} (h : v < Ps.length) (p : Nat) : ((parW Ps).getD v 0).testBit p = true ↔ ((p : Int), (v : Int)) ∈ edg Ps Ps.length 0 := by
 rw [parW_get h, pw_bit _ _ fun x hx => ((hV v h).2 x hx).1, decide_eq_true_eq, edg_par h]
theorem parW_pw {Ps : List (List Int)} (hV : Valid Ps) (hn : Ps.length ≤ 64) : PW Ps.length (edg Ps Ps.length 0) (parW Ps) :=
 ⟨edg_in hV, hn, parW_len Ps, parW_lt hV hn, fun v hv p => parW_bit hV hv p⟩
theorem aw1_lt {n : Nat} (hn : n ≤ 64) (E : Prs) (v : Nat) : aw1 n E v < 18446744073709551616 := cw_lt n _ hn
theorem ancW_get {n : Nat} {E : Prs} {v : Nat} (h : v < n) : (ancW n E).getD v 0 = aw1 n E v := by simp [ancW, List.getD_eq_getElem?_getD, h]
theorem ancW_lt {n : Nat} (hn : n ≤ 64) (E : Prs) (v : Nat) : (ancW n E).getD v 0 < 18446744073709551616 := by
 by_cases h : v < n
 ·rw [ancW_get h]; exact aw1_lt hn E v
 ·rw [List.getD_eq_getElem?_getD, List.getElem?_eq_none (by simp; omega)]; decide
/-- The parents' elements, as numbers. -/
def parE (Ps : List (List Int)) (v : Nat) : List Nat := els (pw (Ps.getD v []))
theorem parE_mem {Ps : List (List Int)} (hV : Valid Ps) (hn : Ps.length ≤ 64) {v : Nat} (h : v < Ps.length) (p : Nat) : p ∈ parE Ps v ↔ ((p : Int), (v : Int)) ∈ edg Ps Ps.length 0 := by
 rw [parE, els_mem, ← parW_get h, parW_bit hV h]
 constructor
 ·exact fun h => h.2
 ·intro he
  have := (Clo.lt (edg_in hV) (.one he)).1
  exact ⟨by omega, he⟩
theorem ul_zeros (n : Nat) : (rep n [Value.int .u64 0]).map PV.v = ul (List.replicate n 0) := by rw [rep_one]; simp [ul]
theorem ul_put (a : List Nat) (k : Nat) (x : Nat) (h : k < a.length) : putL (ul a) k [.v (.int .u64 (x : Int))] = ul (a.set k x) := by rw [putL_one _ _ _ (by simpa using h)]; simp [ul, List.map_set]
theorem ul_get_set (l : List Nat) (k x : Nat) (h : k < l.length) : (ul (l.set k x))[k]? = some (.v (.int .u64 (x : Int))) := by
 rw [ul_get _ _ (by simpa using h), getD_set]; simp [h]
open Classical in
/-- What New answers. -/
noncomputable def newV (Ps : List (List Int)) : AV :=
 if 64 < Ps.length then .tup [.v (.pointer none), .v (.int .i64 2)]
 else if ¬ Valid Ps then .tup [.v (.pointer none), .v (.int .i64 1)]
 else if ∃ a, a < Ps.length ∧ Clo (edg Ps Ps.length 0) a a then .tup [.v (.pointer none), .v (.int .i64 9)]
 else .tup [.fp 0 (gra Ps.length (parW Ps) (ancW Ps.length (edg Ps Ps.length 0))), .v (.int .i64 0)]
theorem okp_snoc {n : Nat} {l : List Int} {p : Int} (h : OkP n l) (h0 : 0 ≤ p) (h1 : p < (n : Int)) (hp : p ∉ l) : OkP n (l ++ [p]) := by
 refine ⟨?_, fun x hx => ?_⟩
 ·rw [List.nodup_append]
  exact ⟨h.1, by simp, fun x hx y hy => by simp at hy; subst hy; exact fun e => hp (e ▸ hx)⟩
 ·rcases List.mem_append.1 hx with hx | hx
  ·exact h.2 x hx
  ·simp at hx; omega
theorem ul_get_other (l : List Nat) (a k x : Nat) (h : k < l.length) (hne : k ≠ a) : (ul (l.set a x))[k]? = some (.v (.int .u64 ((l.getD k 0 : Nat) : Int))) := by
 rw [ul_get _ _ (by simpa using h), getD_set, if_neg (by simp [hne])]
theorem newV_arg {Ps : List (List Int)} (h : ¬ 64 < Ps.length) (hv : ¬ Valid Ps) : newV Ps = .tup [.v (.pointer none), .v (.int .i64 1)] := by
 unfold newV; rw [if_neg h, if_pos hv]
theorem newV_cyc {Ps : List (List Int)} (h : ¬ 64 < Ps.length) (hv : Valid Ps) (hc : ∃ a, a < Ps.length ∧ Clo (edg Ps Ps.length 0) a a) : newV Ps = .tup [.v (.pointer none), .v (.int .i64 9)] := by
 unfold newV; rw [if_neg h, if_neg (fun h => h hv), if_pos hc]
theorem newV_ok {Ps : List (List Int)} (h : ¬ 64 < Ps.length) (hv : Valid Ps) (hc : ¬ ∃ a, a < Ps.length ∧ Clo (edg Ps Ps.length 0) a a) : newV Ps = .tup [.fp 0 (gra Ps.length (parW Ps) (ancW Ps.length (edg Ps Ps.length 0))), .v (.int .i64 0)] := by
 unfold newV; rw [if_neg h, if_neg (fun h => h hv), if_neg hc]
theorem cast_get {l : List Nat} {k : Nat} : (l.map fun (x : Nat) => (x : Int)).getD k 0 = ((l.getD k 0 : Nat) : Int) := by
 simp only [List.getD_eq_getElem?_getD, List.getElem?_map]
 cases l[k]? <;> rfl
set_option maxHeartbeats 2000000 in
theorem vnew_spec (n : Nat) (Ps : List (List Int)) (hPs : Ps.length = n) (hn1 : n ≤ 1000) (hm : ∀ v, (Ps.getD v []).length ≤ 100) (hS : Valid Ps → n ≤ 64 → ∀ a, a < n → (nxt (edg Ps n 0) a).length ≤ 12) :
  Spec Try.prog 58 (inSt [.sl n (nrows Ps)] []) (outSt (newV Ps) []) := by
 have hnr : (nrows Ps).length = n := by simp [nrows, hPs]
 refine Spec.ofN Try.func58 rfl Try.ntmps58 rfl ?_
 refine D_seq fun K1 hK1 => ?_
 refine D_region ?_
 refine DL_c (op_as _ (rfl : _ = AV.v _)) ?_
 refine DL_c (op_as _ (rfl : _ = AV.v (.int _ _))) ?_
 refine DL_nil (hK1 _ ?_)
 clear hK1; try clear K1
 refine D_seq fun K2 hK2 => ?_
 refine D_region ?_
 refine DL_c (op_mv _ (rfl : _ = AV.sl _ _)) ?_
 refine DL_c (op_lenS _ inferInstance rfl) ?_
 refine DL_c (op_as _ (rfl : _ = AV.v (.int _ _))) ?_
 refine DL_nil (hK2 _ ?_)
 clear hK2; try clear K2
 refine D_seq fun K3 hK3 => ?_
 refine D_seq fun K4 hK4 => ?_
 refine D_region ?_
 refine DL_c (op_mv _ (rfl : _ = AV.v (.int _ _))) ?_
 refine DL_c (op_gtr _ _ rfl rfl rfl) ?_
 refine DL_nil (hK4 _ ?_)
 clear hK4; try clear K4
 refine D_splitC rfl (fun hc20 => ?_) (fun hc20 => ?_)
 ·skip
  refine D_seq fun K5 hK5 => ?_
  refine D_region ?_
  refine DL_c (op_as _ (rfl : _ = AV.v _)) ?_
  refine DL_c (op_as _ (rfl : _ = AV.v (.int _ _))) ?_
  refine DL_nil (hK5 _ ?_)
  clear hK5; try clear K5
  refine D_ret ?_
  rw [show newV Ps = .tup [.v (.pointer none), .v (.int .i64 2)] from if_pos (by omega)]
  exact ret2 (.inr rfl) rfl (.tmp (rfl : _ = AV.v _)) (.tmp (rfl : _ = AV.v _)) (Le.out [] [] (.tup rfl (lv_cons .v (lv_cons .v lv_nil))) rfl rfl rfl trivial trivial)
 ·skip
  have hedl := fun v j => edg_len hm v j
  refine D_skip (hK3 _ ?_)
  clear hK3; try clear K3
  refine D_seq fun K6 hK6 => ?_
  refine D_le (σ' := mkStI 135 [(0, _), (4, _)] [] [] []) (by
   refine Le.mkJ [] [] rfl ?_ ?_ trivial trivial ?_
   ·exact ⟨(iS rfl), (iV rfl), trivial⟩
   ·exact trivial
   ·kernel_rfl) ?_
  refine D_anyL 7 [21, 22, 23, 24, 25, 26, 5] [(22, 0), (24, 0), (26, 0)] (by kernel_rfl) (by kernel_rfl) rfl (nodupO_iff rfl) (rfl : _ = [_, _, _, _, _, _, _]) (rfl : _ = []) ?_
  refine any_c (_, []) (fun τ => op_mv _ (rfl : _ = AV.v (.int _ _))) ?_
  refine any_n (rfl : _ = [_]) ?_
  refine any_c (_, [((22, 0), _)]) (fun τ => op_mk (xs := ul (List.replicate n 0)) (22, 0) _ _ inferInstance rfl rfl n rfl rfl (by omega) rfl (ul_zeros n)) ?_
  refine any_n (rfl : _ = [_, _]) ?_
  refine any_c (_, []) (fun τ => op_mv _ (rfl : _ = AV.v (.int _ _))) ?_
  refine any_n (rfl : _ = [_, _, _]) ?_
  refine any_c (_, [((24, 0), _)]) (fun τ => op_mk (xs := ul (List.replicate n 0)) (24, 0) _ _ inferInstance rfl rfl n rfl rfl (by omega) rfl (ul_zeros n)) ?_
  refine any_n (rfl : _ = [_, _, _, _]) ?_
  refine any_c (_, []) (fun τ => op_build (ys := [.ref (22, 0) 0 n, .ref (24, 0) 0 n]) _ inferInstance rfl rfl) ?_
  refine any_n (rfl : _ = [_, _, _, _, _]) ?_
  refine any_c (_, [((26, 0), _)]) (fun τ => op_box (26, 0) _ rfl rfl) ?_
  refine any_n (rfl : _ = [_, _, _, _, _, _]) ?_
  refine any_c (_, []) (fun τ => op_as _ (rfl : _ = AV.ptr _ _)) ?_
  refine any_n (rfl : _ = [_, _, _, _, _, _, _]) ?_
  refine any_end ⟨rfl, ?_⟩
  refine DL_nil (hK6 _ ?_)
  clear hK6; try clear K6
  refine D_seq fun K7 hK7 => ?_
  refine D_region ?_
  refine DL_c (op_asN (6, 0) _ 38 2 rfl rfl) ?_
  refine DL_nil (hK7 _ ?_)
  clear hK7; try clear K7
  refine D_seq fun K8 hK8 => ?_
  refine D_seq fun K9 hK9 => ?_
  refine D_region ?_
  refine DL_c (op_mv _ (rfl : _ = AV.sl _ _)) ?_
  refine DL_c (op_lenS _ inferInstance rfl) ?_
  refine DL_c (op_mv _ (rfl : _ = AV.v (.int _ _))) ?_
  refine DL_nil (hK9 _ ?_)
  clear hK9; try clear K9
  refine D_block ?_
  refine D_loopL (α := Nat) (fun v => v ≤ n ∧ ∀ u, u < v → OkP n (Ps.getD u [])) 135 [(4, _), (5, _), (27, _), (28, _)] [((24, 0), _), ((26, 0), _)] (fun v => [(29, .v (.int .i64 (v : Int))), (6, .ref (6, 0) 0 (edg Ps v 0).length)]) (fun v => [((6, 0), .row 38 2 (psl (edg Ps v 0))), ((22, 0), .row 125 1 (ul (pwL n Ps v 0)))]) [] [] (fun v => n - v) 0 ?_ (by
   refine Le.mkJ [] [] rfl ?_ ?_ trivial trivial ?_
   ·exact ⟨(iV rfl), (iP rfl), (iS rfl), (iV rfl), (lvI (by rfl)), (lvRr rfl (by rfl)), trivial⟩
   ·exact ⟨(obE rfl rfl rfl), (obE rfl rfl rfl), (obR rfl rfl rfl (by rfl)), (obR rfl rfl rfl (by rw [pwL_zero])), trivial⟩
   ·kernel_rfl) ?_
  ·exact ⟨by omega, fun u hu => by omega⟩
  intro v hv
  obtain ⟨hv, hok⟩ := hv
  refine D_seq fun K10 hK10 => ?_
  refine D_region ?_
  refine DL_c (op_lss _ _ rfl rfl rfl) ?_
  refine DL_nil (hK10 _ ?_)
  clear hK10; try clear K10
  refine D_seq fun K11 hK11 => ?_
  refine D_splitC rfl (fun hc30 => ?_) (fun hc30 => ?_)
  ·skip
   have hvl := hm v
   have hok0 : OkP n ((Ps.getD v []).take 0) := ⟨by simp, fun p hp => by simp at hp⟩
   refine D_skip (hK11 _ ?_)
   clear hK11; try clear K11
   refine D_seq fun K12 hK12 => ?_
   refine D_block ?_
   refine D_seq fun K13 hK13 => ?_
   refine D_region ?_
   refine DL_c (op_mv _ (rfl : _ = AV.v (.int _ _))) ?_
   refine DL_c (op_ixS _ _ inferInstance rfl rfl v rfl (by omega) (by omega) (Nat.mul_one _)) ?_
   refine DL_c (op_ldF _ inferInstance rfl (by exact nrows_get _ _ (by omega)) rfl) ?_
   refine DL_c (op_as _ (rfl : _ = AV.v (.int _ _))) ?_
   refine DL_c (op_as _ (rfl : _ = AV.sl _ _)) ?_
   refine DL_nil (hK13 _ ?_)
   clear hK13; try clear K13
   refine D_seq fun K14 hK14 => ?_
   refine D_region ?_
   refine DL_c (op_mv _ (rfl : _ = AV.sl _ _)) ?_
   refine DL_c (op_lenS _ inferInstance rfl) ?_
   refine DL_c (op_mv _ (rfl : _ = AV.v (.int _ _))) ?_
   refine DL_nil (hK14 _ ?_)
   clear hK14; try clear K14
   refine D_block ?_
   refine D_loopL (α := Nat) (fun j => j ≤ (Ps.getD v []).length ∧ OkP n ((Ps.getD v []).take j)) 135 [(4, _), (5, _), (7, _), (27, _), (28, _), (29, _), (34, _), (35, _)] [((24, 0), _), ((26, 0), _)] (fun j => [(36, .v (.int .i64 (j : Int))), (6, .ref (6, 0) 0 (edg Ps v j).length)]) (fun j => [((6, 0), .row 38 2 (psl (edg Ps v j))), ((22, 0), .row 125 1 (ul (pwL n Ps v j)))]) [] [] (fun j => (Ps.getD v []).length - j) 0 ?_ (by
    refine Le.mkJ [] [] rfl ?_ ?_ trivial trivial ?_
    ·exact ⟨(iV rfl), (iP rfl), (iV rfl), (iS rfl), (iV rfl), (iV rfl), (by exact iS rfl), (iV rfl), (lvI (by rfl)), (lvRr rfl (by rfl)), trivial⟩
    ·exact ⟨(obE rfl rfl rfl), (obE rfl rfl rfl), (obR rfl rfl rfl (by rfl)), (obR rfl rfl rfl (by rfl)), trivial⟩
    ·kernel_rfl) ?_
   ·exact ⟨by omega, hok0⟩
   intro j hj
   obtain ⟨hj, hoj⟩ := hj
   have hel := hedl v j
   have hvm : v * 100 ≤ 6400 := by omega
   refine D_seq fun K15 hK15 => ?_
   refine D_region ?_
   refine DL_c (op_lss _ _ rfl rfl rfl) ?_
   refine DL_nil (hK15 _ ?_)
   clear hK15; try clear K15
   refine D_seq fun K16 hK16 => ?_
   refine D_splitC rfl (fun hc37 => ?_) (fun hc37 => ?_)
   ·skip
    have hpl := pwL_len n Ps v j
    have hpg := pwL_get (n := n) (Ps := Ps) (v := v) (j := j) (by omega)
    have hwl := pw_ok (by omega) hoj
    refine D_skip (hK16 _ ?_)
    clear hK16; try clear K16
    refine D_seq fun K17 hK17 => ?_
    refine D_block ?_
    refine D_seq fun K18 hK18 => ?_
    refine D_region ?_
    refine DL_c (op_ixS _ _ inferInstance rfl rfl _ rfl (by omega) (by (simp only [isl_len, bsl_len, psl_len, mrows_len, nsl_len, ws_len, List.length_map, ul_len, pwL_len, asts_len, psl_len]; omega)) (by exact Nat.mul_one _)) ?_
    refine DL_c (op_ldF _ inferInstance rfl (by exact isl_get _ _ (by omega)) rfl) ?_
    refine DL_c (op_as _ (rfl : _ = AV.v (.int _ _))) ?_
    refine DL_nil (hK18 _ ?_)
    clear hK18; try clear K18
    refine D_seq fun K19 hK19 => ?_
    refine D_seq fun K20 hK20 => ?_
    refine D_region ?_
    refine DL_c (op_mv _ (rfl : _ = AV.v (.int _ _))) ?_
    refine DL_c (op_lss _ _ rfl rfl rfl) ?_
    refine DL_c (op_mv _ (rfl : _ = AV.v (.bool _))) ?_
    refine DL_caseC (fun hg42 => ?_) (fun hg42 => ?_)
    ·skip
     have hbad : ¬ Valid Ps := fun hV => by have := (hV v (by omega)).2 _ (getD_memI (show j < (Ps.getD v []).length by omega)); omega
     refine DL_cn rfl rfl (by decide) ?_
     refine DL_cn rfl rfl (by decide) ?_
     refine DL_cn rfl rfl (by decide) ?_
     refine DL_c (op_pick _ _ _ rfl (rfl : _ = AV.v (.bool _))) ?_
     refine DL_c (op_mv _ (rfl : _ = AV.v (.bool _))) ?_
     refine DL_cn rfl rfl (by decide) ?_
     refine DL_cn rfl rfl (by decide) ?_
     refine DL_cn rfl rfl (by decide) ?_
     refine DL_cn rfl rfl (by decide) ?_
     refine DL_cn rfl rfl (by decide) ?_
     refine DL_cn rfl rfl (by decide) ?_
     refine DL_cn rfl rfl (by decide) ?_
     refine DL_cn rfl rfl (by decide) ?_
     refine DL_cn rfl rfl (by decide) ?_
     refine DL_c (op_pick _ _ _ rfl (rfl : _ = AV.v (.bool _))) ?_
     refine DL_nil (hK20 _ ?_)
     clear hK20; try clear K20
     refine D_cT rfl rfl ?_
     refine D_seq fun K21 hK21 => ?_
     refine D_le (σ' := mkStI 135 [] [] [] []) (by
      refine Le.mkJ [] [] rfl ?_ ?_ trivial trivial ?_
      ·exact trivial
      ·exact trivial
      ·kernel_rfl) ?_
     refine D_region ?_
     refine DL_c (op_as _ (rfl : _ = AV.v _)) ?_
     refine DL_c (op_as _ (rfl : _ = AV.v (.int _ _))) ?_
     refine DL_nil (hK21 _ ?_)
     clear hK21; try clear K21
     refine D_ret ?_
     rw [newV_arg (by omega) hbad]
     exact ret2 (.inr rfl) rfl (.tmp (rfl : _ = AV.v _)) (.tmp (rfl : _ = AV.v _)) (Le.out [] [] (.tup rfl (lv_cons .v (lv_cons .v lv_nil))) rfl rfl rfl trivial trivial)
    ·skip
     refine DL_cy rfl rfl (op_mv _ (rfl : _ = AV.v (.int _ _))) ?_
     refine DL_cy rfl rfl (op_mv _ (rfl : _ = AV.v (.int _ _))) ?_
     refine DL_cy rfl rfl (op_geq _ _ rfl rfl rfl) ?_
     refine DL_c (op_pick _ _ _ rfl (rfl : _ = AV.v (.bool _))) ?_
     refine DL_c (op_mv _ (rfl : _ = AV.v (.bool _))) ?_
     refine DL_caseC (fun hg47 => ?_) (fun hg47 => ?_)
     ·skip
      have hbad : ¬ Valid Ps := fun hV => by have := (hV v (by omega)).2 _ (getD_memI (show j < (Ps.getD v []).length by omega)); omega
      refine DL_cn rfl rfl (by decide) ?_
      refine DL_cn rfl rfl (by decide) ?_
      refine DL_cn rfl rfl (by decide) ?_
      refine DL_cn rfl rfl (by decide) ?_
      refine DL_cn rfl rfl (by decide) ?_
      refine DL_cn rfl rfl (by decide) ?_
      refine DL_cn rfl rfl (by decide) ?_
      refine DL_cn rfl rfl (by decide) ?_
      refine DL_cn rfl rfl (by decide) ?_
      refine DL_c (op_pick _ _ _ rfl (rfl : _ = AV.v (.bool _))) ?_
      refine DL_nil (hK20 _ ?_)
      clear hK20; try clear K20
      refine D_cT rfl rfl ?_
      refine D_seq fun K22 hK22 => ?_
      refine D_le (σ' := mkStI 135 [] [] [] []) (by
       refine Le.mkJ [] [] rfl ?_ ?_ trivial trivial ?_
       ·exact trivial
       ·exact trivial
       ·kernel_rfl) ?_
      refine D_region ?_
      refine DL_c (op_as _ (rfl : _ = AV.v _)) ?_
      refine DL_c (op_as _ (rfl : _ = AV.v (.int _ _))) ?_
      refine DL_nil (hK22 _ ?_)
      clear hK22; try clear K22
      refine D_ret ?_
      rw [newV_arg (by omega) hbad]
      exact ret2 (.inr rfl) rfl (.tmp (rfl : _ = AV.v _)) (.tmp (rfl : _ = AV.v _)) (Le.out [] [] (.tup rfl (lv_cons .v (lv_cons .v lv_nil))) rfl rfl rfl trivial trivial)
     ·skip
      obtain ⟨b, hbe⟩ := Int.eq_ofNat_of_zero_le hg42
      have hbit := pw_bit b ((Ps.getD v []).take j) fun p hp => (hoj.2 p hp).1
      refine DL_cy rfl rfl (op_mv _ (rfl : _ = AV.ptr _ _)) ?_
      refine DL_cy rfl rfl (op_nilp _ rfl rfl) ?_
      refine DL_cy rfl rfl (op_fldP _ inferInstance rfl rfl rfl) ?_
      refine DL_cy rfl rfl (op_ldB _ inferInstance rfl rfl (rfl : _ = some (AV.ref _ _ _))) ?_
      refine DL_cy rfl rfl (op_mv _ (rfl : _ = AV.v (.int _ _))) ?_
      refine DL_cy rfl rfl (op_ixR _ _ inferInstance rfl rfl rfl v rfl (by omega) (by exact (Nat.zero_add _).trans (Nat.mul_one _))) ?_
      refine DL_cy rfl rfl (op_ldR _ inferInstance rfl rfl (by exact (ul_get _ _ (by omega)).trans (by rw [hpg])) rfl) ?_
      refine DL_cy rfl rfl (op_mv _ (rfl : _ = AV.v (.int _ _))) ?_
      refine DL_cy rfl rfl (op_callH inferInstance (by repeat' (first | exact argsLv_nil | refine argsLv_cons ?_ ?_ | exact Lv.v | exact lvI (by omega))) (vhas_spec (pw ((Ps.getD v []).take j)) b hwl (by omega)) rfl rfl) ?_
      refine DL_c (op_pick _ _ _ rfl (rfl : _ = AV.v (.bool _))) ?_
      refine DL_nil (hK20 _ ?_)
      clear hK20; try clear K20
      refine D_splitC rfl (fun hc57 => ?_) (fun hc57 => ?_)
      ·skip
       have hbad : ¬ Valid Ps := fun hV => by
        have h1 := (hV v (by omega)).1
        rw [hbit, decide_eq_true_eq, ← hbe] at hc57
        rw [← List.take_append_drop j (Ps.getD v []), List.nodup_append, drop1 (by omega)] at h1
        exact h1.2.2 _ hc57 _ List.mem_cons_self rfl
       refine D_seq fun K23 hK23 => ?_
       refine D_le (σ' := mkStI 135 [] [] [] []) (by
        refine Le.mkJ [] [] rfl ?_ ?_ trivial trivial ?_
        ·exact trivial
        ·exact trivial
        ·kernel_rfl) ?_
       refine D_region ?_
       refine DL_c (op_as _ (rfl : _ = AV.v _)) ?_
       refine DL_c (op_as _ (rfl : _ = AV.v (.int _ _))) ?_
       refine DL_nil (hK23 _ ?_)
       clear hK23; try clear K23
       refine D_ret ?_
       rw [newV_arg (by omega) hbad]
       exact ret2 (.inr rfl) rfl (.tmp (rfl : _ = AV.v _)) (.tmp (rfl : _ = AV.v _)) (Le.out [] [] (.tup rfl (lv_cons .v (lv_cons .v lv_nil))) rfl rfl rfl trivial trivial)
      ·skip
       rw [hbit, decide_eq_false_iff_not, ← hbe] at hc57
       refine D_skip (hK19 _ ?_)
       clear hK19; try clear K19
       refine D_seq fun K24 hK24 => ?_
       refine D_le (σ' := mkStI 135 [(4, _), (5, _), (6, _), (7, _), (10, _), (27, _), (28, _), (29, _), (34, _), (35, _), (36, _)] [((24, 0), _), ((26, 0), _), ((6, 0), _), ((22, 0), _)] [] []) (by
        refine Le.mkJ [] [] rfl ?_ ?_ trivial trivial ?_
        ·exact ⟨(iV rfl), (iP rfl), (iR rfl), (iV rfl), (iV rfl), (iS rfl), (iV rfl), (iV rfl), (by exact iS rfl), (iV rfl), (iV rfl), trivial⟩
        ·exact ⟨(obE rfl rfl rfl), (obE rfl rfl rfl), (obE rfl rfl rfl), (obE rfl rfl rfl), trivial⟩
        ·kernel_rfl) ?_
       refine D_anyL 15 [58, 59, 60, 61, 62, 63, 64, 65, 66, 67, 68, 69, 70, 71, 72] [] (by kernel_rfl) (by kernel_rfl) rfl (nodupO_iff rfl) (rfl : _ = [_, _, _, _, _, _, _, _, _, _, _, _, _, _, _]) (rfl : _ = [_]) ?_
       refine any_c (_, []) (fun τ => op_mv _ (rfl : _ = AV.ptr _ _)) ?_
       refine any_n (rfl : _ = [_]) ?_
       refine any_c (_, []) (fun τ => op_nilp _ rfl rfl) ?_
       refine any_n (rfl : _ = [_, _]) ?_
       refine any_c (_, []) (fun τ => op_fldP _ inferInstance rfl rfl rfl) ?_
       refine any_n (rfl : _ = [_, _, _]) ?_
       refine any_c (_, []) (fun τ => op_ldB _ inferInstance rfl rfl (rfl : _ = some (AV.ref _ _ _))) ?_
       refine any_n (rfl : _ = [_, _, _, _]) ?_
       refine any_c (_, []) (fun τ => op_mv _ (rfl : _ = AV.v (.int _ _))) ?_
       refine any_n (rfl : _ = [_, _, _, _, _]) ?_
       refine any_c (_, []) (fun τ => op_mv _ (rfl : _ = AV.ptr _ _)) ?_
       refine any_n (rfl : _ = [_, _, _, _, _, _]) ?_
       refine any_c (_, []) (fun τ => op_nilp _ rfl rfl) ?_
       refine any_n (rfl : _ = [_, _, _, _, _, _, _]) ?_
       refine any_c (_, []) (fun τ => op_fldP _ inferInstance rfl rfl rfl) ?_
       refine any_n (rfl : _ = [_, _, _, _, _, _, _, _]) ?_
       refine any_c (_, []) (fun τ => op_ldB _ inferInstance rfl rfl (rfl : _ = some (AV.ref _ _ _))) ?_
       refine any_n (rfl : _ = [_, _, _, _, _, _, _, _, _]) ?_
       refine any_c (_, []) (fun τ => op_mv _ (rfl : _ = AV.v (.int _ _))) ?_
       refine any_n (rfl : _ = [_, _, _, _, _, _, _, _, _, _]) ?_
       refine any_c (_, []) (fun τ => op_ixR _ _ inferInstance rfl rfl rfl v rfl (by omega) (by exact (Nat.zero_add _).trans (Nat.mul_one _))) ?_
       refine any_n (rfl : _ = [_, _, _, _, _, _, _, _, _, _, _]) ?_
       refine any_c (_, []) (fun τ => op_ldR _ inferInstance rfl rfl (by exact (ul_get _ _ (by omega)).trans (by rw [hpg])) rfl) ?_
       refine any_n (rfl : _ = [_, _, _, _, _, _, _, _, _, _, _, _]) ?_
       refine any_c (_, []) (fun τ => op_mv _ (rfl : _ = AV.v (.int _ _))) ?_
       refine any_n (rfl : _ = [_, _, _, _, _, _, _, _, _, _, _, _, _]) ?_
       refine any_c (_, []) (fun τ => (op_callH inferInstance (by repeat' (first | exact argsLv_nil | refine argsLv_cons ?_ ?_ | exact Lv.v | exact lvI (by omega))) (with_spec (pw ((Ps.getD v []).take j)) b hwl (by omega)) rfl rfl)) ?_
       refine any_n (rfl : _ = [_, _, _, _, _, _, _, _, _, _, _, _, _, _]) ?_
       refine any_c (_, []) (fun τ => op_ixR _ _ inferInstance rfl rfl rfl v rfl (by omega) (by exact (Nat.zero_add _).trans (Nat.mul_one _))) ?_
       refine any_n (rfl : _ = [_, _, _, _, _, _, _, _, _, _, _, _, _, _, _]) ?_
       refine any_end ⟨rfl, ?_⟩
       refine DL_c (op_stR _ _ inferInstance rfl rfl rfl rfl rfl (by simp; omega) (ul_put _ _ _ (by omega))) ?_
       refine DL_nil (hK24 _ ?_)
       clear hK24; try clear K24
       refine D_le (σ' := mkStI 135 [(4, _), (5, _), (6, _), (7, _), (10, _), (27, _), (28, _), (29, _), (34, _), (35, _), (36, _)] [((24, 0), _), ((26, 0), _), ((6, 0), _), ((22, 0), _)] [] []) (by
        refine Le.mkJ [] [] rfl ?_ ?_ trivial trivial ?_
        ·exact ⟨(iV rfl), (iP rfl), (iR rfl), (iV rfl), (iV rfl), (iS rfl), (iV rfl), (iV rfl), (by exact iS rfl), (iV rfl), (iV rfl), trivial⟩
        ·exact ⟨(obE rfl rfl rfl), (obE rfl rfl rfl), (obE rfl rfl rfl), (obE rfl rfl rfl), trivial⟩
        ·kernel_rfl) ?_
       refine D_region ?_
       refine DL_c (op_mv _ (rfl : _ = AV.ref _ _ _)) ?_
       refine DL_c (op_mv _ (rfl : _ = AV.v (.int _ _))) ?_
       refine DL_c (op_mv _ (rfl : _ = AV.v (.int _ _))) ?_
       refine DL_c (op_build _ inferInstance rfl (by exact (rfl : _ = some [_, _]))) ?_
       refine DL_c (op_bsF _ _ inferInstance rfl (by rfl) (by simp <;> rfl) (by decide) rfl) ?_
       refine DL_c (op_ap (78, 0) _ _ inferInstance rfl rfl (by (simp only [isl_len, bsl_len, psl_len, mrows_len, nsl_len, ws_len, List.length_map, ul_len, pwL_len, asts_len, psl_len]; omega)) (by (refine .sl ?_; (simp [isl]; done))) (by omega) rfl (rfl) (rfl)) ?_
       refine DL_c (op_as _ (rfl : _ = AV.ref _ _ _)) ?_
       refine DL_nil (hK17 _ ?_)
       clear hK17; try clear K17
       refine D_region ?_
       refine DL_c (op_add _ _ rfl rfl (i64w (by omega))) ?_
       refine DL_c (op_mv _ (rfl : _ = AV.v (.int _ _))) ?_
       refine DL_nil ?_
       refine ⟨j + 1, ?_, ?_, ?_⟩
       ·exact ⟨by omega, by rw [take1 0 (by omega)]; exact okp_snoc hoj (by omega) (by omega) hc57⟩
       ·skip
        refine Le.mkJ [((6, 0), (78, 0))] [] rfl ?_ ?_ trivial trivial ?_
        ·exact ⟨(by repeat' (exact Lv.v)), (lvPr (id := (26, 0)) rfl), (by repeat' (exact Lv.v)), (by repeat' (exact Lv.sl)), (by repeat' (exact Lv.v)), (by repeat' (exact Lv.v)), (by repeat' (exact Lv.sl)), (by repeat' (exact Lv.v)), (lvI (by rfl)), (lvRr rfl (by ((rw [edg_succ (by omega), List.length_append]; rfl)))), trivial⟩
        ·exact ⟨(obR rfl rfl rfl rfl), (obB rfl rfl rfl rfl (by repeat' (first | exact lvRr (id := (24, 0)) rfl rfl | exact lvRr (id := (22, 0)) rfl rfl | exact lv_nil | refine lv_cons ?_ ?_))), (obR rfl rfl rfl (by ((rw [edg_succ (by omega), ← psl_append]; rfl)))), (obR rfl rfl rfl (by rw [pwL_succ (by omega) hbe])), trivial⟩
        ·kernel_rfl
       ·omega
   ·skip
    have hjl : j = (Ps.getD v []).length := by omega
    have hokv : OkP n (Ps.getD v []) := by
     have := hoj
     rw [hjl, List.take_length] at this
     exact this
    refine D_exit ?_
    refine id (hK12 _ ?_)
    clear hK12; try clear K12
    refine D_region ?_
    refine DL_c (op_add _ _ rfl rfl (i64w (by omega))) ?_
    refine DL_c (op_mv _ (rfl : _ = AV.v (.int _ _))) ?_
    refine DL_nil ?_
    refine ⟨v + 1, ?_, ?_, ?_⟩
    ·exact ⟨by omega, fun u hu => by
      by_cases h : u < v
      ·exact hok u h
      ·have : u = v := by omega
       subst this; exact hokv⟩
    ·skip
     refine Le.mkJ [] [] rfl ?_ ?_ trivial trivial ?_
     ·exact ⟨(iV rfl), (iP rfl), (iS rfl), (iV rfl), (lvI (by rfl)), (lvRr rfl (by rw [hjl, edg_next])), trivial⟩
     ·exact ⟨(obE rfl rfl rfl), (obE rfl rfl rfl), (obR rfl rfl rfl (by rw [hjl, edg_next])), (obR rfl rfl rfl (by rw [hjl, pwL_next])), trivial⟩
     ·kernel_rfl
    ·omega
  ·skip
   obtain rfl : v = n := by omega
   have hV : Valid Ps := fun u hu => by rw [hPs] at hu ⊢; exact hok u hu
   have hE : inE v (edg Ps v 0) = true := hPs ▸ edg_in hV
   have hel := hedl v 0
   have hT := topo_spec v (by omega) _ (edg Ps v 0) rfl (by omega) hE fun a ha => ⟨hS hV (by omega) a ha, nxt_edg_nodup (fun u hu => (hok u hu).1) a⟩
   have hse := nxS_se hE
   have hpsl : (psl (edg Ps v 0)).length = (edg Ps v 0).length * 2 := by rw [psl_len]; omega
   have hTA : (kahn v (nxS v (edg Ps v 0)) v []).length < v → Spec Try.prog 54 (inSt [.v (.int .i64 (v : Int)), .sl (edg Ps v 0).length (psl (edg Ps v 0))] []) (outSt (.tup [.v (.slice none 0 0), .v (.bool false)]) []) := fun hkl => by
    rw [show topoR v (nxS v (edg Ps v 0)) = .tup [.v (.slice none 0 0), .v (.bool false)] from if_pos hkl] at hT; exact hT
   have hTB : ¬ (kahn v (nxS v (edg Ps v 0)) v []).length < v → Spec Try.prog 54 (inSt [.v (.int .i64 (v : Int)), .sl (edg Ps v 0).length (psl (edg Ps v 0))] []) (outSt (.tup [.sl v (isl ((kahn v (nxS v (edg Ps v 0)) v []).map fun (x : Nat) => (x : Int))), .v (.bool true)]) []) := fun hkl => by
    rw [show topoR v (nxS v (edg Ps v 0)) = .tup [.sl v (isl ((kahn v (nxS v (edg Ps v 0)) v []).map fun (x : Nat) => (x : Int))), .v (.bool true)] from if_neg hkl] at hT; exact hT
   have hKO := kahn_ko (n := v) (S := nxS v (edg Ps v 0)) v [] (KO.nil v _)
   have hKL := nodup_le v _ hKO.nd hKO.lt
   have hpE := fun (u : Nat) (hu : u < v) (p : Nat) => hPs ▸ parE_mem hV (by omega) (hPs ▸ hu) p
   refine D_exit ?_
   refine id (hK8 _ ?_)
   clear hK8; try clear K8
   refine D_seq fun K25 hK25 => ?_
   rcases Classical.em ((kahn v (nxS v (edg Ps v 0)) v []).length < v) with hkl | hkl
   ·skip
    refine D_le (Le.frzS (ys := psl (edg Ps v 0)) 6 rfl rfl rfl (by rw [List.drop_zero]; exact List.take_of_length_le (by omega)) (by omega)) ?_
    refine D_region ?_
    refine DL_c (op_mv _ (rfl : _ = AV.v (.int _ _))) ?_
    refine DL_c (op_mv _ (rfl : _ = AV.sl _ _)) ?_
    refine DL_c (op_callH inferInstance (by repeat' (first | exact argsLv_nil | refine argsLv_cons ?_ ?_ | exact Lv.v | exact Lv.sl)) (hTA hkl) rfl rfl) ?_
    refine DL_c (op_mv _ (rfl : _ = AV.tup _)) ?_
    refine DL_c (op_ext _ rfl (rfl : _ = some (AV.v (.slice _ _ _)))) ?_
    refine DL_c (op_ext _ rfl (rfl : _ = some (AV.v (.bool _)))) ?_
    refine DL_c (op_as _ (rfl : _ = AV.v (.slice _ _ _))) ?_
    refine DL_c (op_as _ (rfl : _ = AV.v (.bool _))) ?_
    refine DL_nil (hK25 _ ?_)
    clear hK25; try clear K25
    refine D_seq fun K26 hK26 => ?_
    refine D_seq fun K27 hK27 => ?_
    refine D_region ?_
    refine DL_c (op_mv _ (rfl : _ = AV.v (.bool _))) ?_
    refine DL_c (op_not _ rfl rfl) ?_
    refine DL_nil (hK27 _ ?_)
    clear hK27; try clear K27
    refine D_cT rfl rfl ?_
    refine D_seq fun K28 hK28 => ?_
    refine D_region ?_
    refine DL_c (op_as _ (rfl : _ = AV.v _)) ?_
    refine DL_c (op_as _ (rfl : _ = AV.v (.int _ _))) ?_
    refine DL_nil (hK28 _ ?_)
    clear hK28; try clear K28
    refine D_ret ?_
    rw [newV_cyc (by omega) hV (by rw [hPs]; exact topo_cyc hse hkl)]
    exact ret2 (.inr rfl) rfl (.tmp (rfl : _ = AV.v _)) (.tmp (rfl : _ = AV.v _)) (Le.out [] [] (.tup rfl (lv_cons .v (lv_cons .v lv_nil))) rfl rfl rfl trivial trivial)
   ·skip
    refine D_le (Le.frzS (ys := psl (edg Ps v 0)) 6 rfl rfl rfl (by rw [List.drop_zero]; exact List.take_of_length_le (by omega)) (by omega)) ?_
    refine D_region ?_
    refine DL_c (op_mv _ (rfl : _ = AV.v (.int _ _))) ?_
    refine DL_c (op_mv _ (rfl : _ = AV.sl _ _)) ?_
    refine DL_c (op_callH inferInstance (by repeat' (first | exact argsLv_nil | refine argsLv_cons ?_ ?_ | exact Lv.v | exact Lv.sl)) (hTB hkl) rfl rfl) ?_
    refine DL_c (op_mv _ (rfl : _ = AV.tup _)) ?_
    refine DL_c (op_ext _ rfl (rfl : _ = some (AV.sl _ _))) ?_
    refine DL_c (op_ext _ rfl (rfl : _ = some (AV.v (.bool _)))) ?_
    refine DL_c (op_as _ (rfl : _ = AV.sl _ _)) ?_
    refine DL_c (op_as _ (rfl : _ = AV.v (.bool _))) ?_
    refine DL_nil (hK25 _ ?_)
    clear hK25; try clear K25
    refine D_seq fun K29 hK29 => ?_
    refine D_seq fun K30 hK30 => ?_
    refine D_region ?_
    refine DL_c (op_mv _ (rfl : _ = AV.v (.bool _))) ?_
    refine DL_c (op_not _ rfl rfl) ?_
    refine DL_nil (hK30 _ ?_)
    clear hK30; try clear K30
    refine D_cF rfl rfl ?_
    refine D_skip (hK29 _ ?_)
    clear hK29; try clear K29
    refine D_seq fun K31 hK31 => ?_
    refine D_seq fun K32 hK32 => ?_
    rcases topo_ok hse hkl with hnc
    ·skip
     have hall := asts_all hse hkl hpE
     generalize hOe : kahn v (nxS v (edg Ps v 0)) v [] = O at hKO hKL hkl hall ⊢
     have hOl : O.length = v := by omega
     have hOc : (O.map fun (x : Nat) => (x : Int)).length = v := by simp [hOl]
     have hprl := pwL_len v Ps v 0
     refine D_region ?_
     refine DL_c (op_mv _ (rfl : _ = AV.sl _ _)) ?_
     refine DL_c (op_lenS _ inferInstance rfl) ?_
     refine DL_c (op_mv _ (rfl : _ = AV.v (.int _ _))) ?_
     refine DL_nil (hK32 _ ?_)
     clear hK32; try clear K32
     refine D_block ?_
     refine D_loopL (α := Nat) (fun k => k ≤ v) 135 [(5, _), (89, _), (90, _)] [((26, 0), _), ((22, 0), _)] (fun k => [(91, .v (.int .i64 (k : Int)))]) (fun k => [((24, 0), .row 125 1 (ul (asts v (parE Ps) (O.take k))))]) [] [] (fun k => v - k) 0 ?_ (by
      refine Le.mkJ [] [] rfl ?_ ?_ trivial trivial ?_
      ·exact ⟨(iP rfl), (iS rfl), (iV rfl), (lvI (by rfl)), trivial⟩
      ·exact ⟨(obE rfl rfl rfl), (obE rfl rfl rfl), (obR rfl rfl rfl (by rw [List.take_zero, asts_nil])), trivial⟩
      ·kernel_rfl) ?_
     ·omega
     intro k hk
     refine D_seq fun K33 hK33 => ?_
     refine D_region ?_
     refine DL_c (op_lss _ _ rfl rfl rfl) ?_
     refine DL_nil (hK33 _ ?_)
     clear hK33; try clear K33
     refine D_seq fun K34 hK34 => ?_
     refine D_splitC rfl (fun hc92 => ?_) (fun hc92 => ?_)
     ·skip
      obtain ⟨a, ha⟩ : ∃ a, a = O.getD k 0 := ⟨_, rfl⟩
      have hca := cast_get (l := O) (k := k)
      rw [← ha] at hca
      have haO : a ∈ O := ha ▸ getD_mem (by omega)
      have han := hKO.lt a haO
      have hoa := hok a han
      have hpa := pwL_getF (n := v) (Ps := Ps) (v := v) (j := 0) han han
      have hwa := pw_ok (by omega) hoa
      have hLa : Spec Try.prog 99 (inSt [.v (.int .u64 ((pw (Ps.getD a []) : Nat) : Int))] []) (outSt (.sl (parE Ps a).length (nsl (parE Ps a))) []) := list_spec _ hwa
      have hpel : (parE Ps a).length ≤ 64 := els_len _
      have hal := asts_len v (parE Ps) (O.take k)
      have hat := asts_lt v (parE Ps) (O.take k) fun x hx => by have := hKO.lt x (List.mem_of_mem_take hx); omega
      have hts : asts v (parE Ps) (O.take (k + 1)) = astp (parE Ps) (asts v (parE Ps) (O.take k)) a := by rw [take1 0 (by omega), ← ha, asts_snoc]
      refine D_skip (hK34 _ ?_)
      clear hK34; try clear K34
      refine D_seq fun K35 hK35 => ?_
      refine D_block ?_
      refine D_seq fun K36 hK36 => ?_
      refine D_region ?_
      refine DL_c (op_ixS _ _ inferInstance rfl rfl _ rfl (by omega) (by (simp only [isl_len, bsl_len, psl_len, mrows_len, nsl_len, ws_len, List.length_map, ul_len, pwL_len, asts_len, psl_len]; omega)) (by exact Nat.mul_one _)) ?_
      refine DL_c (op_ldF _ inferInstance rfl (by exact (isl_get _ _ (by omega)).trans (by rw [hca])) rfl) ?_
      refine DL_c (op_as _ (rfl : _ = AV.v (.int _ _))) ?_
      refine DL_nil (hK36 _ ?_)
      clear hK36; try clear K36
      refine D_seq fun K37 hK37 => ?_
      refine D_le (σ' := mkStI 135 [(5, _), (14, _), (89, _), (90, _), (91, _)] [((26, 0), _), ((22, 0), _), ((24, 0), _)] [] []) (by
       refine Le.mkJ [] [] rfl ?_ ?_ trivial trivial ?_
       ·exact ⟨(iP rfl), (iV rfl), (iS rfl), (iV rfl), (iV rfl), trivial⟩
       ·exact ⟨(obE rfl rfl rfl), (obE rfl rfl rfl), (obE rfl rfl rfl), trivial⟩
       ·kernel_rfl) ?_
      refine D_anyL 8 [95, 96, 97, 98, 99, 100, 101, 102] [] (by kernel_rfl) (by kernel_rfl) rfl (nodupO_iff rfl) (rfl : _ = [_, _, _, _, _, _, _, _]) (rfl : _ = [_]) ?_
      refine any_c (_, []) (fun τ => op_mv _ (rfl : _ = AV.ptr _ _)) ?_
      refine any_n (rfl : _ = [_]) ?_
      refine any_c (_, []) (fun τ => op_nilp _ rfl rfl) ?_
      refine any_n (rfl : _ = [_, _]) ?_
      refine any_c (_, []) (fun τ => op_fldP _ inferInstance rfl rfl rfl) ?_
      refine any_n (rfl : _ = [_, _, _]) ?_
      refine any_c (_, []) (fun τ => op_ldB _ inferInstance rfl rfl (rfl : _ = some (AV.ref _ _ _))) ?_
      refine any_n (rfl : _ = [_, _, _, _]) ?_
      refine any_c (_, []) (fun τ => op_mv _ (rfl : _ = AV.v (.int _ _))) ?_
      refine any_n (rfl : _ = [_, _, _, _, _]) ?_
      refine any_c (_, []) (fun τ => op_mv _ (rfl : _ = AV.v (.int _ _))) ?_
      refine any_n (rfl : _ = [_, _, _, _, _, _]) ?_
      refine any_c (_, []) (fun τ => (op_callH inferInstance (by repeat' (first | exact argsLv_nil | refine argsLv_cons ?_ ?_ | exact Lv.v)) (with_spec 0 a (by omega) (by omega)) rfl rfl)) ?_
      refine any_n (rfl : _ = [_, _, _, _, _, _, _]) ?_
      refine any_c (_, []) (fun τ => op_ixR _ _ inferInstance rfl rfl rfl a rfl (by omega) (by exact (Nat.zero_add _).trans (Nat.mul_one _))) ?_
      refine any_n (rfl : _ = [_, _, _, _, _, _, _, _]) ?_
      refine any_end ⟨rfl, ?_⟩
      refine DL_c (op_stR _ _ inferInstance rfl rfl rfl rfl rfl (by simp; omega) (ul_put _ _ _ (by omega))) ?_
      refine DL_nil (hK37 _ ?_)
      clear hK37; try clear K37
      refine D_seq fun K38 hK38 => ?_
      refine D_region ?_
      refine DL_c (op_mv _ (rfl : _ = AV.ptr _ _)) ?_
      refine DL_c (op_nilp _ rfl rfl) ?_
      refine DL_c (op_fldP _ inferInstance rfl rfl rfl) ?_
      refine DL_c (op_ldB _ inferInstance rfl rfl (rfl : _ = some (AV.ref _ _ _))) ?_
      refine DL_c (op_mv _ (rfl : _ = AV.v (.int _ _))) ?_
      refine DL_c (op_ixR _ _ inferInstance rfl rfl rfl a rfl (by omega) (by exact (Nat.zero_add _).trans (Nat.mul_one _))) ?_
      refine DL_c (op_ldR _ inferInstance rfl rfl (by exact (ul_get _ _ (by omega)).trans (by rw [hpa])) rfl) ?_
      refine DL_c (op_callH inferInstance (by repeat' (first | exact argsLv_nil | refine argsLv_cons ?_ ?_ | exact Lv.v)) (hLa) rfl rfl) ?_
      refine DL_c (op_lenS _ inferInstance rfl) ?_
      refine DL_c (op_mv _ (rfl : _ = AV.v (.int _ _))) ?_
      refine DL_nil (hK38 _ ?_)
      clear hK38; try clear K38
      refine D_block ?_
      refine D_loopL (α := Nat) (fun j => j ≤ (parE Ps a).length) 135 [(5, _), (14, _), (89, _), (90, _), (91, _), (110, _), (111, _)] [((26, 0), _), ((22, 0), _)] (fun j => [(112, .v (.int .i64 (j : Int)))]) (fun j => [((24, 0), .row 125 1 (ul ((asts v (parE Ps) (O.take k)).set a (aw (asts v (parE Ps) (O.take k)) a (parE Ps a) j))))]) [] [] (fun j => (parE Ps a).length - j) 0 ?_ (by
       refine Le.mkJ [] [] rfl ?_ ?_ trivial trivial ?_
       ·exact ⟨(iP rfl), (iV rfl), (iS rfl), (iV rfl), (iV rfl), (iS rfl), (iV rfl), (lvI (by rfl)), trivial⟩
       ·exact ⟨(obE rfl rfl rfl), (obE rfl rfl rfl), (obR rfl rfl rfl (by rw [aw_zero, Nat.zero_or])), trivial⟩
       ·kernel_rfl) ?_
      ·omega
      intro j hj
      refine D_seq fun K39 hK39 => ?_
      refine D_region ?_
      refine DL_c (op_lss _ _ rfl rfl rfl) ?_
      refine DL_nil (hK39 _ ?_)
      clear hK39; try clear K39
      refine D_seq fun K40 hK40 => ?_
      refine D_splitC rfl (fun hc113 => ?_) (fun hc113 => ?_)
      ·skip
       obtain ⟨p, hp⟩ : ∃ p, p = (parE Ps a).getD j 0 := ⟨_, rfl⟩
       have hpm : p ∈ parE Ps a := hp ▸ getD_mem (by omega)
       have hpe := (hpE a han p).1 hpm
       have hpn := (Clo.lt hE (.one hpe)).1
       have hpne : p ≠ a := fun e => hnc ⟨a, han, .one (e ▸ hpe)⟩
       have haw := aw_lt hat (show a < 64 by omega) (parE Ps a) j
       have has := aw_succ (s := asts v (parE Ps) (O.take k)) (v := a) (l := parE Ps a) (j := j) (by omega)
       rw [← hp] at has
       refine D_skip (hK40 _ ?_)
       clear hK40; try clear K40
       refine D_seq fun K41 hK41 => ?_
       refine D_block ?_
       refine D_seq fun K42 hK42 => ?_
       refine D_region ?_
       refine DL_c (op_ixS _ _ inferInstance rfl rfl _ rfl (by omega) (by (simp only [isl_len, bsl_len, psl_len, mrows_len, nsl_len, ws_len, List.length_map, ul_len, pwL_len, asts_len, psl_len]; omega)) (by exact Nat.mul_one _)) ?_
       refine DL_c (op_ldF _ inferInstance rfl (by exact (nsl_get _ _ (by omega)).trans (by rw [← hp])) rfl) ?_
       refine DL_c (op_as _ (rfl : _ = AV.v (.int _ _))) ?_
       refine DL_nil (hK42 _ ?_)
       clear hK42; try clear K42
       refine D_le (σ' := mkStI 135 [(5, _), (14, _), (16, _), (89, _), (90, _), (91, _), (110, _), (111, _), (112, _)] [((26, 0), _), ((22, 0), _), ((24, 0), _)] [] []) (by
        refine Le.mkJ [] [] rfl ?_ ?_ trivial trivial ?_
        ·exact ⟨(iP rfl), (iV rfl), (iV rfl), (iS rfl), (iV rfl), (iV rfl), (iS rfl), (iV rfl), (iV rfl), trivial⟩
        ·exact ⟨(obE rfl rfl rfl), (obE rfl rfl rfl), (obE rfl rfl rfl), trivial⟩
        ·kernel_rfl) ?_
       refine D_anyL 16 [116, 117, 118, 119, 120, 121, 122, 123, 124, 125, 126, 127, 128, 129, 130, 131] [] (by kernel_rfl) (by kernel_rfl) rfl (nodupO_iff rfl) (rfl : _ = [_, _, _, _, _, _, _, _, _, _, _, _, _, _, _, _]) (rfl : _ = [_]) ?_
       refine any_c (_, []) (fun τ => op_mv _ (rfl : _ = AV.ptr _ _)) ?_
       refine any_n (rfl : _ = [_]) ?_
       refine any_c (_, []) (fun τ => op_nilp _ rfl rfl) ?_
       refine any_n (rfl : _ = [_, _]) ?_
       refine any_c (_, []) (fun τ => op_fldP _ inferInstance rfl rfl rfl) ?_
       refine any_n (rfl : _ = [_, _, _]) ?_
       refine any_c (_, []) (fun τ => op_ldB _ inferInstance rfl rfl (rfl : _ = some (AV.ref _ _ _))) ?_
       refine any_n (rfl : _ = [_, _, _, _]) ?_
       refine any_c (_, []) (fun τ => op_mv _ (rfl : _ = AV.v (.int _ _))) ?_
       refine any_n (rfl : _ = [_, _, _, _, _]) ?_
       refine any_c (_, []) (fun τ => op_ixR _ _ inferInstance rfl rfl rfl a rfl (by omega) (by exact (Nat.zero_add _).trans (Nat.mul_one _))) ?_
       refine any_n (rfl : _ = [_, _, _, _, _, _]) ?_
       refine any_c (_, []) (fun τ => op_ldR _ inferInstance rfl rfl (by exact ul_get_set _ _ _ (by omega)) rfl) ?_
       refine any_n (rfl : _ = [_, _, _, _, _, _, _]) ?_
       refine any_c (_, []) (fun τ => op_mv _ (rfl : _ = AV.ptr _ _)) ?_
       refine any_n (rfl : _ = [_, _, _, _, _, _, _, _]) ?_
       refine any_c (_, []) (fun τ => op_nilp _ rfl rfl) ?_
       refine any_n (rfl : _ = [_, _, _, _, _, _, _, _, _]) ?_
       refine any_c (_, []) (fun τ => op_fldP _ inferInstance rfl rfl rfl) ?_
       refine any_n (rfl : _ = [_, _, _, _, _, _, _, _, _, _]) ?_
       refine any_c (_, []) (fun τ => op_ldB _ inferInstance rfl rfl (rfl : _ = some (AV.ref _ _ _))) ?_
       refine any_n (rfl : _ = [_, _, _, _, _, _, _, _, _, _, _]) ?_
       refine any_c (_, []) (fun τ => op_mv _ (rfl : _ = AV.v (.int _ _))) ?_
       refine any_n (rfl : _ = [_, _, _, _, _, _, _, _, _, _, _, _]) ?_
       refine any_c (_, []) (fun τ => op_ixR _ _ inferInstance rfl rfl rfl p rfl (by omega) (by exact (Nat.zero_add _).trans (Nat.mul_one _))) ?_
       refine any_n (rfl : _ = [_, _, _, _, _, _, _, _, _, _, _, _, _]) ?_
       refine any_c (_, []) (fun τ => op_ldR _ inferInstance rfl rfl (by exact ul_get_other _ _ _ _ (by omega) hpne) rfl) ?_
       refine any_n (rfl : _ = [_, _, _, _, _, _, _, _, _, _, _, _, _, _]) ?_
       refine any_c (_, []) (fun τ => op_or _ _ rfl rfl (u64_or _ _ haw (hat p))) ?_
       refine any_n (rfl : _ = [_, _, _, _, _, _, _, _, _, _, _, _, _, _, _]) ?_
       refine any_c (_, []) (fun τ => op_ixR _ _ inferInstance rfl rfl rfl a rfl (by omega) (by exact (Nat.zero_add _).trans (Nat.mul_one _))) ?_
       refine any_n (rfl : _ = [_, _, _, _, _, _, _, _, _, _, _, _, _, _, _, _]) ?_
       refine any_end ⟨rfl, ?_⟩
       refine DL_c (op_stR _ _ inferInstance rfl rfl rfl rfl rfl (by simp; omega) (ul_put _ _ _ (by simp; omega))) ?_
       refine DL_nil (hK41 _ ?_)
       clear hK41; try clear K41
       refine D_le (σ' := mkStI 135 [(5, _), (14, _), (89, _), (90, _), (91, _), (110, _), (111, _), (112, _)] [((26, 0), _), ((22, 0), _), ((24, 0), _)] [] []) (by
        refine Le.mkJ [] [] rfl ?_ ?_ trivial trivial ?_
        ·exact ⟨(iP rfl), (iV rfl), (iS rfl), (iV rfl), (iV rfl), (iS rfl), (iV rfl), (iV rfl), trivial⟩
        ·exact ⟨(obE rfl rfl rfl), (obE rfl rfl rfl), (obE rfl rfl rfl), trivial⟩
        ·kernel_rfl) ?_
       refine D_region ?_
       refine DL_c (op_add _ _ rfl rfl (i64w (by omega))) ?_
       refine DL_c (op_mv _ (rfl : _ = AV.v (.int _ _))) ?_
       refine DL_nil ?_
       refine ⟨j + 1, ?_, ?_, ?_⟩
       ·omega
       ·skip
        refine Le.mkJ [] [] rfl ?_ ?_ trivial trivial ?_
        ·exact ⟨(iP rfl), (iV rfl), (iS rfl), (iV rfl), (iV rfl), (iS rfl), (iV rfl), (lvI (by rfl)), trivial⟩
        ·exact ⟨(obE rfl rfl rfl), (obE rfl rfl rfl), (obR rfl rfl rfl (by rw [List.set_set, has])), trivial⟩
        ·kernel_rfl
       ·omega
      ·skip
       have hjl : j = (parE Ps a).length := by omega
       refine D_exit ?_
       refine id (hK35 _ ?_)
       clear hK35; try clear K35
       refine D_region ?_
       refine DL_c (op_add _ _ rfl rfl (i64w (by omega))) ?_
       refine DL_c (op_mv _ (rfl : _ = AV.v (.int _ _))) ?_
       refine DL_nil ?_
       refine ⟨k + 1, ?_, ?_, ?_⟩
       ·omega
       ·skip
        refine Le.mkJ [] [] rfl ?_ ?_ trivial trivial ?_
        ·exact ⟨(iP rfl), (iS rfl), (iV rfl), (lvI (by rfl)), trivial⟩
        ·exact ⟨(obE rfl rfl rfl), (obE rfl rfl rfl), (obR rfl rfl rfl (by rw [hts, astp, hjl])), trivial⟩
        ·kernel_rfl
       ·omega
     ·skip
      obtain rfl : k = v := by omega
      have hfin : asts k (parE Ps) (O.take k) = ancW k (edg Ps k 0) := by rw [List.take_of_length_le (by omega)]; exact hall
      have hpf : pwL k Ps k 0 = parW Ps := by have := pwL_full Ps; rw [hPs] at this; exact this
      have hal := asts_len k (parE Ps) (O.take k)
      refine D_exit ?_
      refine id (hK31 _ ?_)
      clear hK31; try clear K31
      refine D_seq fun K43 hK43 => ?_
      refine D_le (Le.mkJ (n := 135) (slots := [(5, .ptr (26, 0) 0)]) (obs := [((26, 0), .box 123 [.sl k (ul (parW Ps)), .sl k (ul (ancW k (edg Ps k 0)))])]) (I := []) (Pn := []) [] [(22, 0), (24, 0)] rfl ⟨lvPr rfl, trivial⟩ ⟨obB rfl rfl rfl rfl (lv_cons (frz0 rfl rfl (by simp) (by rw [hpf])) (lv_cons (frz0 rfl rfl (by simp) (by rw [hfin])) lv_nil)), trivial⟩ ⟨rfl, rfl, trivial⟩ trivial (by kernel_rfl)) ?_
      refine D_region ?_
      refine DL_c (op_mv _ (rfl : _ = AV.ptr _ _)) ?_
      refine DL_c (op_as _ (rfl : _ = AV.ptr _ _)) ?_
      refine DL_c (op_as _ (rfl : _ = AV.v (.int _ _))) ?_
      refine DL_nil (hK43 _ ?_)
      clear hK43; try clear K43
      refine D_ret ?_
      rw [newV_ok (by omega) hV (by rw [hPs]; exact hnc), hPs]
      exact ret2 (.inr rfl) rfl (.tmp (rfl : _ = AV.ptr _ _)) (.tmp (rfl : _ = AV.v _)) (Le.out [] [(26, 0)] (.tup rfl (lv_cons (.frzP rfl rfl rfl) (lv_cons .v lv_nil))) rfl rfl rfl ⟨rfl, trivial⟩ trivial)
end Go.Proofs.Ytkbkmngbenohkaa

namespace Go.Proofs.Ytkbkmngbenohkaa
open Go.RowKit

def prC (v : Nat) (own : List Int) (n : Int) (k : Nat) : Prop := 0 ≤ (v : Int) - 1 - n % 4 ∧ (v : Int) - 1 - n % 4 ∉ own ∧ (k = 0 ∨ n / 4 % 3 = 0)
instance (v : Nat) (own : List Int) (n : Int) (k : Nat) : Decidable (prC v own n k) := by unfold prC; exact inferInstance
def prK (v : Nat) (N : Int) : Nat → List Int × Int
 | 0 => ([], N)
 | k + 1 => (if prC v (prK v N k).1 (prK v N k).2 k then (prK v N k).1 ++ [(v : Int) - 1 - (prK v N k).2 % 4] else (prK v N k).1, (prK v N k).2 / 4 / 3)
/-- A row of parents: a few smaller numbers close by, each once. -/
structure Row4 (v : Nat) (l : List Int) : Prop where
 nd : l.Nodup
 b : ∀ p ∈ l, 0 ≤ p ∧ p < (v : Int) ∧ (v : Int) ≤ p + 4
def pr1 (l : List Int) (v : Nat) : List Int := if 0 < v then (prK v (around (l.getD (v - 1) 0) 1000000) 3).1 else []
def prL (l : List Int) (v : Nat) : List (List Int) := (List.range v).map (pr1 l)
@[simp] theorem prL_len (l : List Int) (v : Nat) : (prL l v).length = v := by simp [prL]
/-- Versions whose parents are a few smaller numbers close by. -/
structure Near (Ps : List (List Int)) : Prop where
 n : Ps.length ≤ 14
 r : ∀ v, v < Ps.length → Row4 v (Ps.getD v []) ∧ (Ps.getD v []).length ≤ 3
theorem Near.rows {Ps : List (List Int)} (h : Near Ps) (v : Nat) : (Ps.getD v []).length ≤ 3 := by
 by_cases hv : v < Ps.length
 ·exact (h.r v hv).2
 ·rw [List.getD_eq_getElem?_getD, List.getElem?_eq_none (by omega)]; exact Nat.zero_le _
/-- To smaller numbers alone: no way leads back. -/
theorem clo_lt {E : Prs} (h : ∀ a b : Nat, ((a : Int), (b : Int)) ∈ E → a < b) {a b : Nat} (hc : Clo E a b) : a < b := by
 induction hc with
 | one he => exact h _ _ he
 | more he _ ih => have := h _ _ he; omega
theorem Near.lt {Ps : List (List Int)} (h : Near Ps) {a b : Nat} (hc : Clo (edg Ps Ps.length 0) a b) : a < b := by
 refine clo_lt (fun a b he => ?_) hc
 obtain ⟨v, hv, h1, h2⟩ := edg_mem.1 he
 have := (h.r v hv).1.b _ h2
 simp only at h1 this
 omega
theorem filter_few {p : Nat → Bool} {a m : Nat} (n : Nat) (h : ∀ v, p v = true → a < v ∧ v ≤ a + m) : ((List.range n).filter p).length ≤ m := by
 have h1 : ((List.range n).filter p).Nodup := List.Pairwise.filter _ List.nodup_range
 have h2 := nodup_le m (((List.range n).filter p).map fun v => v - a - 1) (by
  rw [List.nodup_iff_pairwise_ne, List.pairwise_map]
  refine List.Pairwise.imp_of_mem ?_ (List.nodup_iff_pairwise_ne.1 h1)
  intro x y hx hy hne he
  have := h x (List.mem_filter.1 hx).2
  have := h y (List.mem_filter.1 hy).2
  omega) (by
  intro x hx
  obtain ⟨y, hy, rfl⟩ := List.mem_map.1 hx
  have := h y (List.mem_filter.1 hy).2
  omega)
 simpa using h2
end Go.Proofs.Ytkbkmngbenohkaa

namespace Go.Proofs.Ytkbkmngbenohkaa
open Go.RowKit

@[simp] theorem nrows_len (L : List (List Int)) : (nrows L).length = L.length := by simp [nrows]
end Go.Proofs.Ytkbkmngbenohkaa

namespace Go.Proofs.Ytkbkmngbenohkaa
open Go.RowKit

/-- A row of blames. -/
def blR (L : List (Nat × List Nat)) : List PV := L.flatMap fun b => [.v (.int .i64 (b.1 : Int)), .sl b.2.length (nsl b.2)]
@[simp] theorem blR_len (L : List (Nat × List Nat)) : (blR L).length = L.length * 2 := by
 induction L with
 | nil => rfl
 | cons b L ih => simp only [blR, List.flatMap_cons, List.length_append, List.length_cons, List.length_nil] at ih ⊢; omega
theorem blR_app (L : List (Nat × List Nat)) (v : Nat) (s : List Nat) : blR L ++ [.v (.int .i64 (v : Int)), .sl s.length (nsl s)] = blR (L ++ [(v, s)]) := by simp [blR]
theorem wat_len {n : Nat} (P : List Nat) (v : Int) : (wat n P v).length ≤ 64 := by
 unfold wat; split
 ·exact els_len _
 ·exact Nat.zero_le _
end Go.Proofs.Ytkbkmngbenohkaa

namespace Go.Proofs.Ytkbkmngbenohkaa
open Go.RowKit

def pk (l : List Int) (i : Nat) (n : Int) : Int := if i < l.length then around (l.getD i 0) n else 0
theorem blR_get0 (L : List (Nat × List Nat)) : ∀ (i : Nat), i < L.length → (blR L)[i * 2]? = some (.v (.int .i64 (((L.getD i (0, [])).1 : Nat) : Int))) := by
 induction L with
 | nil => intro i h; simp at h
 | cons b L ih =>
  intro i h
  have e : blR (b :: L) = .v (.int .i64 (b.1 : Int)) :: .sl b.2.length (nsl b.2) :: blR L := rfl
  cases i with
  | zero => simp [e]
  | succ i => rw [e, show (i + 1) * 2 = i * 2 + 1 + 1 by omega, List.getElem?_cons_succ, List.getElem?_cons_succ, ih i (by simpa using h)]; rfl
theorem blR_get1 (L : List (Nat × List Nat)) : ∀ (i : Nat), i < L.length → (blR L)[i * 2 + 1]? = some (.sl (L.getD i (0, [])).2.length (nsl (L.getD i (0, [])).2)) := by
 induction L with
 | nil => intro i h; simp at h
 | cons b L ih =>
  intro i h
  have e : blR (b :: L) = .v (.int .i64 (b.1 : Int)) :: .sl b.2.length (nsl b.2) :: blR L := rfl
  cases i with
  | zero => simp [e]
  | succ i => rw [e, show (i + 1) * 2 + 1 = i * 2 + 1 + 1 + 1 by omega, List.getElem?_cons_succ, List.getElem?_cons_succ, ih i (by simpa using h)]; rfl
theorem cast_inj {a b : List Nat} : a.map (fun (x : Nat) => (x : Int)) = b.map (fun (x : Nat) => (x : Int)) ↔ a = b := by
 constructor
 ·intro h
  apply List.ext_getElem
  ·simpa using congrArg List.length h
  ·intro i h1 h2
   have := congrArg (fun l => l[i]?) h
   simp only [List.getElem?_map, List.getElem?_eq_getElem h1, List.getElem?_eq_getElem h2, Option.map_some, Option.some.injEq] at this
   omega
 ·intro h; rw [h]
end Go.Proofs.Ytkbkmngbenohkaa

namespace Go.Proofs.Ytkbkmngbenohkaa
open Go.RowKit

/-- Statuses from numbers. -/
def stv (l : List Int) (v : Nat) : Int := [0, 0, 2, 1, 0, 2].getD (pk l v 6).toNat 0
def st0 (n : Nat) (l : List Int) : List Int := (List.range n).map (stv l)
@[simp] theorem st0_len (n : Nat) (l : List Int) : (st0 n l).length = n := by simp [st0]
def inh1 (o : List Int) (v : Nat) (a : List Nat) : List Int := a.foldl (fun o u => if o.getD u 0 = 1 ∧ o.getD v 0 = 0 then o.set v 1 else o) o
@[simp] theorem inh1_len (v : Nat) : ∀ (a : List Nat) (o : List Int), (inh1 o v a).length = o.length
 | [], _ => rfl
 | u :: a, o => by
  have e : inh1 o v (u :: a) = inh1 (if o.getD u 0 = 1 ∧ o.getD v 0 = 0 then o.set v 1 else o) v a := rfl
  rw [e, inh1_len v a]
  split <;> simp
/-- The versions above one, in increasing order. -/
noncomputable def upE (Ps : List (List Int)) (v : Nat) : List Nat := wat Ps.length (ancW Ps.length (edg Ps Ps.length 0)) (v : Int)
noncomputable def stK (Ps : List (List Int)) (l : List Int) (b : Bool) (k : Nat) : List Int := if b = true then (List.range k).foldl (fun o v => inh1 o v (upE Ps v)) (st0 Ps.length l) else st0 Ps.length l
theorem stK_zero (Ps : List (List Int)) (l : List Int) (b : Bool) : stK Ps l b 0 = st0 Ps.length l := by unfold stK; split <;> rfl
theorem stK_succ (Ps : List (List Int)) (l : List Int) (k : Nat) : stK Ps l true (k + 1) = inh1 (stK Ps l true k) k (upE Ps k) := by simp [stK, List.range_succ, List.foldl_append]
theorem stK_false (Ps : List (List Int)) (l : List Int) (k j : Nat) : stK Ps l false k = stK Ps l false j := rfl
@[simp] theorem stK_len (Ps : List (List Int)) (l : List Int) (b : Bool) : ∀ k, (stK Ps l b k).length = Ps.length
 | 0 => by rw [stK_zero]; simp
 | k + 1 => by
  cases b with
  | false => rw [stK_false Ps l (k + 1) k]; exact stK_len Ps l false k
  | true => rw [stK_succ, inh1_len]; exact stK_len Ps l true k
noncomputable def status32 (Ps : List (List Int)) (l : List Int) (b : Bool) : List Int := stK Ps l b Ps.length
@[simp] theorem status32_len (Ps : List (List Int)) (l : List Int) (b : Bool) : (status32 Ps l b).length = Ps.length := stK_len _ _ _ _
theorem upE_mem {Ps : List (List Int)} (h64 : Ps.length ≤ 64) {v u : Nat} (hv : v < Ps.length) : u ∈ upE Ps v ↔ u < Ps.length ∧ (u = v ∨ Clo (edg Ps Ps.length 0) u v) := by
 unfold upE wat
 rw [if_pos (by omega), Int.toNat_natCast, ancW_get hv, els_mem, aw1, cw_bit]
 simp only [Bool.and_eq_true, Bool.or_eq_true, decide_eq_true_eq, cl_iff]
 constructor
 ·exact fun h => h.2
 ·exact fun h => ⟨by omega, h⟩
/-- The untestable parents alone. -/
def unt (st : List Int) (p : Int) : Bool := decide (st.getD p.toNat 0 = 2)
def Pst (Ps : List (List Int)) (st : List Int) : List (List Int) := Ps.map fun r => r.filter (unt st)
@[simp] theorem Pst_len (Ps : List (List Int)) (st : List Int) : (Pst Ps st).length = Ps.length := by simp [Pst]
theorem els_cw {n : Nat} (h64 : n ≤ 64) (f : Nat → Bool) : els (cw n f) = (List.range n).filter f := by
 unfold els
 obtain ⟨d, hd⟩ : ∃ d, 64 = n + d := ⟨64 - n, by omega⟩
 rw [hd, List.range_add, List.filter_append]
 have e1 : List.filter (fun b => (cw n f).testBit b) (List.range n) = (List.range n).filter f := by
  refine List.filter_congr fun b hb => ?_
  rw [cw_bit, decide_eq_true (List.mem_range.1 hb), Bool.true_and]
 have e2 : List.filter (fun b => (cw n f).testBit b) ((List.range d).map (n + ·)) = [] := by
  rw [List.filter_eq_nil_iff]
  intro b hb
  obtain ⟨k, _, rfl⟩ := List.mem_map.1 hb
  rw [cw_bit, decide_eq_false (by omega), Bool.false_and]
  simp
 rw [e1, e2, List.append_nil]
end Go.Proofs.Ytkbkmngbenohkaa

namespace Go.Proofs.Ytkbkmngbenohkaa
open Go.RowKit

theorem upE_eq {Ps : List (List Int)} (h64 : Ps.length ≤ 64) {v : Nat} (hv : v < Ps.length) : upE Ps v = (List.range Ps.length).filter fun u => decide (u = v) || cl (edg Ps Ps.length 0) u v := by
 unfold upE wat
 rw [if_pos (by omega), Int.toNat_natCast, ancW_get hv, aw1, els_cw h64]
theorem upE_trans {Ps : List (List Int)} (h64 : Ps.length ≤ 64) {u v w : Nat} (hv : v < Ps.length) (hw : w < Ps.length) (h1 : u ∈ upE Ps v) (h2 : v ∈ upE Ps w) : u ∈ upE Ps w := by
 obtain ⟨h3, h4⟩ := (upE_mem h64 hv).1 h1
 obtain ⟨_, h5⟩ := (upE_mem h64 hw).1 h2
 refine (upE_mem h64 hw).2 ⟨h3, ?_⟩
 rcases h4 with rfl | h4
 ·exact h5
 ·rcases h5 with rfl | h5
  ·exact .inr h4
  ·exact .inr (h4.trans h5)
end Go.Proofs.Ytkbkmngbenohkaa

namespace Go.Proofs.Ytkbkmngbenohkaa
open Go.RowKit

section
variable {P : Program} {σ τ : St}
/-- σ with the objects of τ beside its own. -/
def St.join (σ τ : St) : St := { σ with ob := fun id => orFree (σ.ob id) (τ.ob id) }
theorem orFree_l {s : Slot} (h : s = .free) (t : Slot) : orFree s t = t := by rw [h]; rfl
theorem orFree_r {s t : Slot} (h : t = .free) : orFree s t = s := by rw [h]; cases s <;> rfl
open Classical in
theorem RelI.join {K Kc : Ctx} {ι ι2 : Oid → Option Blk} {S S2 T : Nat → Prop} {a : Act} {w w' : World} {v : Value} (R : RelI K ι S σ a w) (R2 : RelI Kc ι2 S2 τ ⟨#[v], []⟩ w') (hw : Kc.w0 = w) (hown : ∀ g, ¬ Kc.own g)
  (hTS : ∀ g, T g → S2 g) (hT : ∀ g, T g → S g ∨ w.heap.size ≤ g) (hob : ∀ id o, τ.ob id = .obj o → ObjOk ι2 T w' id o) (hinc : ∀ id, τ.inc id = false) (hdis : ∀ id, τ.ob id = .free ∨ σ.ob id = .free) :
  RelI K (fun id => if τ.ob id = .free then ι id else ι2 id) (fun g => S g ∨ T g) (σ.join τ) a w' := by
 subst hw
 have hb : Below Kc.w0.heap.size Kc.w0 w' := ⟨R2.keeps.os, R2.keeps.tape, R2.keeps.output, R2.keeps.size, fun g hg => R2.keeps.block g hg (hown g)⟩
 have hfre : ∀ {id}, τ.ob id ≠ .free → σ.ob id = .free := fun {id} h => (hdis id).resolve_left h
 have hge : ∀ id B g, ι2 id = some B → B.g = some g → Kc.w0.heap.size ≤ g := fun id B g h1 h2 => (R2.sep id B g h1 h2).2.2 (hinc id)
 refine R.gen (fun id => τ.ob id ≠ .free) (.of_below hb) (fun id h => ?_) (fun id h => ?_) (fun _ _ => rfl) (fun id h => ?_) (fun g h => .inl h) (fun g h => ?_) (fun g h => ?_) (fun id B h _ => .inr (hfre h)) (fun id o h ho => ?_) (fun id B h hB => ?_) (fun id id' B B' g h hB hB' hg hg' => ?_) (fun id B g h hB hg => ?_) (fun id x o h hp => ?_)
 ·simp only [ne_eq, Decidable.not_not] at h; simp [h]
 ·simp only [ne_eq, Decidable.not_not] at h
  exact orFree_r h
 ·revert h
  show orFree _ _ = _ → _
  cases σ.ob id <;> intro h <;> first | rfl | cases h
 ·rcases h with h | h
  ·exact .inl h
  ·exact (hT g h).imp id .inl
 ·rcases h with h | h
  ·exact Nat.lt_of_lt_of_le (R.Slt g h) hb.size
  ·exact R2.Slt g (hTS g h)
 ·have e : orFree (σ.ob id) (τ.ob id) = .obj o := ho
  rw [orFree_l (hfre h)] at e
  refine ⟨(hob id o e).next (by simp [h]) (fun _ _ _ _ => rfl) (fun _ _ => rfl) (fun g hg => .inr hg) (fun id' B hi hB => ?_), fun id' hi => ?_⟩
  ·have hn := R2.clo id o id' e hi
   simpa [hn] using hB
  ·have hn := R2.clo id o id' e hi
   show orFree _ _ ≠ _
   rw [orFree_l (hfre hn)]; exact hn
 ·rw [if_neg h] at hB
  obtain ⟨o, ho⟩ := R2.dom id B hB
  exact ⟨o, by show orFree _ _ = _; rw [orFree_l (hfre h)]; exact ho⟩
 ·rw [if_neg h] at hB
  by_cases h' : τ.ob id' = .free
  ·rw [if_pos h'] at hB'
   have := R.lt hB' hg'
   have := hge id B g hB hg
   omega
  ·rw [if_neg h'] at hB'
   exact R2.inj id id' B B' g hB hB' hg hg'
 ·rw [if_neg h] at hB
  have h1 := hge id B g hB hg
  refine ⟨fun hs => ?_, .inr (Nat.le_trans R.keeps.size h1), fun _ => Nat.le_trans R.keeps.size h1⟩
  rcases hs with hs | hs
  ·have := R.Slt g hs; omega
  ·exact (R2.sep id B g hB hg).1 (hTS g hs)
 ·rw [R.pf id (hfre h)] at hp; cases hp
variable {o : Oper}
/-- What comes back is a row under a name of the caller's. -/
theorem Spec.named {f : FuncId} {σ0 : St} (id : Oid) {n : Nat} {e : TypeId} {sz : Nat} {xs : List PV} (h : Spec P f σ0 (outSt (.ref (0, 8) 0 n) [((0, 8), .row e sz xs)])) : Spec P f σ0 (outSt (.ref id 0 n) [(id, .row e sz xs)]) := by
 have h1 : rnOf [(id, (0, 8))] id = (0, 8) := by simp [rnOf, oeq_self]
 have h2 : inO id [id] = true := by simp [inO, oeq_self]
 refine h.mono (Le.outO (I := []) (Pn := []) [(id, (0, 8))] [] (lvRr h1 rfl) ?_ rfl ?_ trivial ⟨⟨?_, ⟨_, ?_, .rowE rfl⟩, ?_⟩, trivial⟩)
 ·simp [AV.within, h2]
 ·simp [nodupO, inO]
 ·rfl
 ·rw [h1]; rfl
 ·rfl
end
end Go.Proofs.Ytkbkmngbenohkaa

namespace Go.Proofs.Ytkbkmngbenohkaa
open Go.RowKit

/-- A map's entries, in the order of their stores. -/
def mentK : List (Int × Value) → Nat → List MapEntry
 | [], _ => []
 | p :: l, i => ⟨.int .i64 p.1, p.2, i⟩ :: mentK l (i + 1)
def ment (M : List (Int × Value)) : List MapEntry := mentK M 0
theorem mentK_len : ∀ (M : List (Int × Value)) (i : Nat), (mentK M i).length = M.length
 | [], _ => rfl
 | p :: l, i => by simp [mentK, mentK_len l]
@[simp] theorem ment_len (M : List (Int × Value)) : (ment M).length = M.length := mentK_len M 0
theorem mentK_get : ∀ (M : List (Int × Value)) (i j : Nat), (mentK M i)[j]? = (M[j]?).map fun p => ⟨.int .i64 p.1, p.2, i + j⟩
 | [], _, _ => by simp [mentK]
 | p :: l, i, 0 => by simp [mentK]
 | p :: l, i, j + 1 => by
  simp only [mentK, List.getElem?_cons_succ, mentK_get l]
  rw [show i + 1 + j = i + (j + 1) by omega]
theorem ment_get (M : List (Int × Value)) (j : Nat) : (ment M)[j]? = (M[j]?).map fun p => ⟨.int .i64 p.1, p.2, j⟩ := by rw [ment, mentK_get, Nat.zero_add]
theorem mentK_app : ∀ (M : List (Int × Value)) (p : Int × Value) (i : Nat), mentK (M ++ [p]) i = mentK M i ++ [⟨.int .i64 p.1, p.2, i + M.length⟩]
 | [], p, i => rfl
 | q :: l, p, i => by
  simp only [List.cons_append, mentK, mentK_app l, List.length_cons]
  rw [show i + 1 + l.length = i + (l.length + 1) by omega]
theorem ment_app (M : List (Int × Value)) (p : Int × Value) : ment (M ++ [p]) = ment M ++ [⟨.int .i64 p.1, p.2, M.length⟩] := by rw [ment, mentK_app, Nat.zero_add]; rfl
def fndK (k : Int) : List (Int × Value) → Nat → Option (Nat × Value)
 | [], _ => none
 | p :: l, i => if k = p.1 then some (i, p.2) else fndK k l (i + 1)
/-- What the map has at a key. -/
def mget (M : List (Int × Value)) (k : Int) : Option Value := (fndK k M 0).map (·.2)
theorem fndK_none {k : Int} : ∀ {M : List (Int × Value)} {i : Nat}, (∀ p ∈ M, p.1 ≠ k) → fndK k M i = none
 | [], _, _ => rfl
 | p :: l, i, h => by
  rw [fndK, if_neg (fun e => h p List.mem_cons_self e.symm)]
  exact fndK_none fun q hq => h q (List.mem_cons_of_mem _ hq)
theorem mget_none {M : List (Int × Value)} {k : Int} (h : ∀ p ∈ M, p.1 ≠ k) : mget M k = none := by rw [mget, fndK_none h]; rfl
theorem fndK_some {k : Int} {v : Value} : ∀ {M : List (Int × Value)} {i : Nat}, (∃ p ∈ M, p.1 = k) → (∀ p ∈ M, p.1 = k → p.2 = v) → ∃ j, fndK k M i = some (j, v)
 | [], _, h, _ => by obtain ⟨_, h, _⟩ := h; cases h
 | p :: l, i, h, hv => by
  by_cases hk : k = p.1
  ·exact ⟨i, by rw [fndK, if_pos hk, hv p List.mem_cons_self hk.symm]⟩
  ·rw [fndK, if_neg hk]
   obtain ⟨q, hq, hqk⟩ := h
   rcases List.mem_cons.1 hq with rfl | hq
   ·exact absurd hqk.symm hk
   ·exact fndK_some ⟨q, hq, hqk⟩ fun p hp => hv p (List.mem_cons_of_mem _ hp)
theorem mget_some {M : List (Int × Value)} {k : Int} {v : Value} (h : ∃ p ∈ M, p.1 = k) (hv : ∀ p ∈ M, p.1 = k → p.2 = v) : mget M k = some v := by
 obtain ⟨j, hj⟩ := fndK_some (i := 0) h hv
 rw [mget, hj]; rfl
theorem findNow_ment (k : Int) : ∀ (M : List (Int × Value)) (b i : Nat), Instr.findNow (.int .i64) (.int .i64 k) (mentK M b) i = some (fndK k M i)
 | [], _, _ => rfl
 | p :: l, b, i => by
  simp only [mentK, Instr.findNow, Instr.sameNow, if_true, fndK]
  by_cases h : k = p.1
  ·simp [h]
  ·simp only [beq_eq_false_iff_ne.2 h, if_neg h]
   exact findNow_ment k l (b + 1) (i + 1)

variable {P : Program} {T k e : TypeId}
theorem run_chk {w : World} {b : Bool} {v : Value} (hk : P.underlying k = some (.int .i64)) : (Instr.checkKey b 10000 k v).run P w = .ok () w := by
 rw [show (10000 : Nat) = 9999 + 1 from rfl, Instr.checkKey]
 simp [run_underlying hk]
theorem run_fnd {w : World} {M : List (Int × Value)} {x : Int} (hk : P.underlying k = some (.int .i64)) : (Instr.findKey k (.int .i64 x) (ment M)).run P w = .ok (fndK x M 0) w := by
 simp [Instr.findKey, run_underlying hk, ment, findNow_ment]
theorem run_lookM {w : World} {g : Nat} {M : List (Int × Value)} {c : Nat} {x : Int} {z : Value} (ok : Bool) (hT : P.underlying T = some (.map k e)) (hk : P.underlying k = some (.int .i64)) (hz : (zeroValue e).run P w = .ok z w) (hb : w.heap[g]? = some (.map (ment M).toArray c)) :
  (Instr.lookup T (.map (some g)) (.int .i64 x) ok).run P w = .ok (if ok then .tuple #[(mget M x).getD z, .bool (mget M x).isSome] else (mget M x).getD z) w := by
 simp only [Instr.lookup, Sem.run_bind, run_underlying hT, Result.andThen_ok, getObj, Sem.run, hb, Result.andThen, run_chk hk, run_fnd hk, mget]
 cases h : fndK x M 0 with
 | none => simp [hz, run_fnd hk, h, Sem.run_map]
 | some p => obtain ⟨i, v⟩ := p; simp [run_fnd hk, h]
theorem run_updM {w : World} {g : Nat} {M : List (Int × Value)} {x : Int} {v : Value} (hT : P.underlying T = some (.map k e)) (hk : P.underlying k = some (.int .i64)) (hb : w.heap[g]? = some (.map (ment M).toArray M.length)) (hm : mget M x = none) :
  (Instr.mapUpdate T (.map (some g)) (.int .i64 x) v).run P w = .ok () (w.putObj g (.map (ment (M ++ [(x, v)])).toArray (M ++ [(x, v)]).length)) := by
 have hf : fndK x M 0 = none := by
  unfold mget at hm
  cases h : fndK x M 0 with
  | none => rfl
  | some p => rw [h] at hm; cases hm
 simp only [Instr.mapUpdate, Sem.run_bind, run_underlying hT, Result.andThen_ok, getObj, setObj, Sem.run, hb, Result.andThen, run_chk hk, run_fnd hk, hf, ment_app]
 simp [World.putObj]

section
variable {σ : St}
theorem RelI.mapAt {K : Ctx} {ι : Oid → Option Blk} {S : Nat → Prop} {a : Act} {w : World} (R : RelI K ι S σ a w) {x : Operand} {id : Oid} (hx : σ.eval x = .mp id) {es : List MapEntry} {c : Nat} (hid : σ.ob id = .obj (.mp es c)) :
  ∃ B g, ι id = some B ∧ B.g = some g ∧ a.eval x = .map (some g) ∧ w.heap[g]? = some (.map es.toArray c) := by
 obtain ⟨B, g, h1, h2, h3⟩ := R.ob id _ hid
 have hr := R.eval x
 rw [hx] at hr
 generalize hu : a.eval x = u at hr
 cases hr with
 | mp h _ =>
  obtain ⟨g', hg', rfl⟩ := h B h1
  rw [h2] at hg'
  obtain rfl := Option.some.inj hg'
  exact ⟨B, g, h1, h2, rfl, h3⟩
/-- A new map. -/
theorem op_mkM {dd : Option Tmp} {ty : TypeId} (id : Oid) (hid : σ.ob id = .free) : Stp P dd (.makeMap T none) ty σ ((σ.setOb id (.obj (.mp [] 0))).put dd (.mp id)) := by
 intro o hd ho ht
 subst hd
 intro K ι S a w R
 have hrun : (execOp a.eval o).run P w = .ok (.value (.map (some w.heap.size))) (w.alloc (.map #[] 0)) := by
  simp [execOp, ho, Instr.makeMap, newObj]; rfl
 have R1 := R.new (id := id) (o := .mp [] 0) (B := ⟨some w.heap.size, 0, 0⟩) hid ((Below.refl _ _).alloc (Nat.le_refl _) _) (fun g hg => by obtain rfl := Option.some.inj hg; exact Nat.le_refl _)
  ⟨_, _, setI_same _ _ _, rfl, heap_alloc_new w _⟩ (fun i hi => hi.elim)
 refine yields_value hrun ⟨_, S, R1.put o.dst (.mp (fun B hB => ?_) rfl) fun i hi => ?_⟩
 ·rw [setI_same] at hB
  obtain rfl := Option.some.inj hB
  exact ⟨_, rfl, rfl⟩
 ·cases hi; rw [St.setOb_same]; intro h; cases h
/-- A look at a map: what is there and whether. -/
theorem op_lookM {dd : Option Tmp} {ty : TypeId} (x y : Operand) (hT : P.underlying T = some (.map k e)) (hk : P.underlying k = some (.int .i64)) {z : Value} (hz : ∀ w, (zeroValue e).run P w = .ok z w) {id : Oid} {M : List (Int × Value)} {c : Nat} (hx : σ.eval x = .mp id) (hid : σ.ob id = .obj (.mp (ment M) c))
  {n : Int} (hy : σ.eval y = .v (.int .i64 n)) {r : Option Value} (hr : mget M n = r) : Stp P dd (.lookup T x y true) ty σ (σ.put dd (.tup [.v (r.getD z), .v (.bool r.isSome)])) := by
 intro o hd ho ht
 subst hd; subst hr
 refine step_val fun K ι S a w R => ?_
 obtain ⟨B, g, h1, h2, h3, h4⟩ := R.mapAt hx hid
 have hi := R.eval y
 rw [hy] at hi
 have hi := hi.toV
 refine ⟨_, by simp only [execOp, ho, h3, hi, run_lookM true hT hk (hz w) h4, Sem.run_map, Sem.run_bind, Sem.run_pure, Result.andThen_ok, if_true]; rfl, .tup rfl fun j b hb => ?_, fun i hi => ?_⟩
 ·match j, hb with
  | 0, hb => cases hb; exact .v
  | 1, hb => cases hb; exact .v
  | j + 2, hb => simp at hb
 ·cases hi with
  | tup hm h => simp at hm; rcases hm with rfl | rfl <;> cases h
theorem op_look1 {dd : Option Tmp} {ty : TypeId} (x y : Operand) (hT : P.underlying T = some (.map k e)) (hk : P.underlying k = some (.int .i64)) {z : Value} (hz : ∀ w, (zeroValue e).run P w = .ok z w) {id : Oid} {M : List (Int × Value)} {c : Nat} (hx : σ.eval x = .mp id) (hid : σ.ob id = .obj (.mp (ment M) c))
  {n : Int} (hy : σ.eval y = .v (.int .i64 n)) {r : Value} (hr : (mget M n).getD z = r) : Stp P dd (.lookup T x y false) ty σ (σ.put dd (.v r)) := by
 intro o hd ho ht
 subst hd; subst hr
 refine step_val fun K ι S a w R => ?_
 obtain ⟨B, g, h1, h2, h3, h4⟩ := R.mapAt hx hid
 have hi := R.eval y
 rw [hy] at hi
 have hi := hi.toV
 exact ⟨_, by simp only [execOp, ho, h3, hi, run_lookM false hT hk (hz w) h4, Sem.run_map, Sem.run_bind, Sem.run_pure, Result.andThen_ok, if_false]; rfl, .v, fun i hi => by cases hi⟩
/-- A store under a new key. -/
theorem op_updM {ty : TypeId} (x y v : Operand) (hT : P.underlying T = some (.map k e)) (hk : P.underlying k = some (.int .i64)) {id : Oid} {M M' : List (Int × Value)} {c c' : Nat} (hc : c = M.length) (hx : σ.eval x = .mp id) (hid : σ.ob id = .obj (.mp (ment M) c))
  {n : Int} (hy : σ.eval y = .v (.int .i64 n)) {u : Value} (hv : σ.eval v = .v u) (hr : mget M n = none) (hM : M ++ [(n, u)] = M') (hc' : M'.length = c') : Stp P none (.mapUpdate T x y v) ty σ ((σ.setOb id (.obj (.mp (ment M') c'))).put none .dead) := by
 intro o hd ho ht
 subst hc; subst hM; subst hc'
 intro K ι S a w R
 obtain ⟨B, g, h1, h2, h3, h4⟩ := R.mapAt hx hid
 have hi := R.eval y
 rw [hy] at hi
 have hi := hi.toV
 have hu := R.eval v
 rw [hv] at hu
 have hu := hu.toV
 have hrun : (execOp a.eval o).run P w = .ok .skip (w.putObj g (.map (ment (M ++ [(n, u)])).toArray (M ++ [(n, u)]).length)) := by
  simp only [execOp, ho, h3, hi, hu, run_updM hT hk h4 hr, Sem.run_map, Sem.run_bind, Sem.run_pure, Result.andThen_ok]
 have hot : ∀ k, k ≠ g → (w.putObj g (.map (ment (M ++ [(n, u)])).toArray (M ++ [(n, u)]).length)).heap[k]? = w.heap[k]? := fun k hk => World.putObj_heap_other hk
 have hk' : Keeps (fun k => B.g = some k) w (w.putObj g (.map (ment (M ++ [(n, u)])).toArray (M ++ [(n, u)]).length)) := ⟨rfl, rfl, rfl, by simp, fun k _ hn => hot k fun e => hn (e ▸ h2)⟩
 have R1 := R.upd (o' := .mp (ment (M ++ [(n, u)])) (M ++ [(n, u)]).length) hid h1 hk' ⟨B, g, h1, h2, by
  have := (Array.getElem?_eq_some_iff.1 h4).1
  simp [World.putObj, this]⟩ (fun i hi => hi.elim)
 refine yields_skip hrun ⟨ι, S, ?_⟩
 rw [hd]
 exact R1.put none .dead fun i hi => by cases hi
/-- The start of a range over a map. -/
theorem op_rangeM {dd : Option Tmp} {ty : TypeId} (it : Oid) (x : Operand) (hT : P.underlying T = some (.map k e)) {id : Oid} {es : List MapEntry} {c : Nat} (hx : σ.eval x = .mp id) (hid : σ.ob id = .obj (.mp es c)) (hit : σ.ob it = .free) :
  Stp P dd (.range T x) ty σ ((σ.setOb it (.obj (.it id c #[] c))).put dd (.ptr it 0)) := by
 intro o hd ho ht
 subst hd
 intro K ι S a w R
 obtain ⟨B, g, h1, h2, h3, h4⟩ := R.mapAt hx hid
 have hne : id ≠ it := fun h => by rw [h, hit] at hid; cases hid
 have hrun : (execOp a.eval o).run P w = .ok (.value (.pointer (some ⟨w.heap.size, 0, none⟩))) (w.alloc (.mapIter (some g) c #[] c)) := by
  simp [execOp, ho, h3, Instr.range, run_underlying hT, getObj, Sem.run, h4, Result.andThen, newObj]
 have R1 := R.new (id := it) (o := .it id c #[] c) (B := ⟨some w.heap.size, 0, 0⟩) hit ((Below.refl _ _).alloc (Nat.le_refl _) _) (fun g hg => by obtain rfl := Option.some.inj hg; exact Nat.le_refl _)
  ⟨_, _, setI_same _ _ _, rfl, g, heap_alloc_new w _, fun B' hB' => by rw [setI_ne _ _ hne, h1] at hB'; obtain rfl := Option.some.inj hB'; exact h2⟩ (fun i hi => by
   have : i = id := hi
   subst this; right; rw [hid]; intro h; cases h)
 refine yields_value hrun ⟨_, S, R1.put o.dst (.ptr (fun B hB => ?_) rfl) fun i hi => ?_⟩
 ·rw [setI_same] at hB
  obtain rfl := Option.some.inj hB
  exact ⟨_, rfl, rfl⟩
 ·cases hi; rw [St.setOb_same]; intro h; cases h

/-- One operation that may go several ways. -/
def StpN (P : Program) (d : Option Tmp) (op : Op) (ty : TypeId) (σ : St) (Φ : St → Prop) : Prop := ∀ o : Oper, o.dst = d → o.op = op → o.type = ty → ∀ K ι S a w, RelI K ι S σ a w → Yields P o a.eval w fun v w' => ∃ σ', Φ σ' ∧ ∃ ι' S', RelI K ι' S' σ' (a.put o.dst v) w'
theorem DL_cN {rb : Bool} {Q : Exit → St → Prop} {ops : Array Oper} {rest : List Oper} {Φ : St → Prop} {d : Option Tmp} {op : Op} {ty : TypeId} {p : String} {af : Array Edge} (hs : StpN P d op ty σ Φ) (h : ∀ σ', Φ σ' → DL rb P ops Q rest σ') : DL rb P ops Q (⟨d, op, ty, p, af, none⟩ :: rest) σ := by
 intro K a w hr ⟨ι, S, R⟩
 refine wpListIn_plain rfl fun Kx hK => wpIn_of_yields (hs _ rfl rfl rfl K ι S a w R) ?_
 rintro v w' ⟨σ', hΦ, ι', S', R'⟩
 exact hK _ _ (h σ' hΦ K _ _ hr ⟨ι', S', R'⟩)
theorem RelI.itAt {K : Ctx} {ι : Oid → Option Blk} {S : Nat → Prop} {a : Act} {w : World} (R : RelI K ι S σ a w) {x : Operand} {it m : Oid} (hx : σ.eval x = .ptr it 0) {s t c : Nat} {seen : Array Nat} {es : List MapEntry} (hit : σ.ob it = .obj (.it m s seen t)) (hm : σ.ob m = .obj (.mp es c)) :
  ∃ B g mg, ι it = some B ∧ B.g = some g ∧ a.eval x = .pointer (some ⟨g, 0, none⟩) ∧ w.heap[g]? = some (.mapIter (some mg) s seen t) ∧ w.heap[mg]? = some (.map es.toArray c) ∧ (∀ B', ι m = some B' → B'.g = some mg) := by
 obtain ⟨B, g, h1, h2, mg, h3, h4⟩ := R.ob it _ hit
 obtain ⟨B', g', h5, h6, h7⟩ := R.ob m _ hm
 have := h4 B' h5
 rw [h6] at this
 obtain rfl := Option.some.inj this
 have hr := R.eval x
 rw [hx] at hr
 generalize hu : a.eval x = u at hr
 cases hr with
 | ptr h _ =>
  obtain ⟨g2, hg2, rfl⟩ := h B h1
  rw [h2] at hg2
  obtain rfl := Option.some.inj hg2
  exact ⟨B, g, g', h1, h2, rfl, h3, h7, h4⟩
theorem keeps_putAt {w w1 : World} {g : Nat} {o : Obj} (h : w1 = w ∨ w1 = w.drew) (hg : g < w.heap.size) : Keeps (fun k => k = g) w (ChangeMaps.setBlock w1 g o) ∧ (ChangeMaps.setBlock w1 g o).heap[g]? = some o ∧ ∀ k, k ≠ g → (ChangeMaps.setBlock w1 g o).heap[k]? = w.heap[k]? := by
 have hh : w1.heap = w.heap := by rcases h with rfl | rfl <;> rfl
 have hot : ∀ k, k ≠ g → (ChangeMaps.setBlock w1 g o).heap[k]? = w.heap[k]? := fun k hk => by
  simp [ChangeMaps.setBlock, hh, Array.getElem?_setIfInBounds, Ne.symm hk]
 refine ⟨⟨?_, ?_, ?_, ?_, fun k _ hk => hot k hk⟩, ?_, hot⟩
 ·rcases h with rfl | rfl <;> rfl
 ·rcases h with rfl | rfl <;> rfl
 ·rcases h with rfl | rfl <;> rfl
 ·simp [ChangeMaps.setBlock, hh]
 ·simp [ChangeMaps.setBlock, hh, hg]
/-- The next entry of a range: one that is left, whichever; or none is left. -/
theorem op_nextM {dd : Option Tmp} {ty : TypeId} (x : Operand) {it m : Oid} {M : List (Int × Value)} {seen : Array Nat} {c t : Nat} (hx : σ.eval x = .ptr it 0) (hit : σ.ob it = .obj (.it m c seen t)) (hm : σ.ob m = .obj (.mp (ment M) c)) (hc : c = M.length) (ht : c ≤ t) :
  StpN P dd (.next x false) ty σ fun σ' => ((∀ i, i < M.length → i ∈ seen) ∧ σ' = σ.put dd (.tup [.v (.bool false)])) ∨
   ∃ i p, M[i]? = some p ∧ i ∉ seen ∧ σ' = (σ.setOb it (.obj (.it m c (seen.push i) c))).put dd (.tup [.v (.bool true), .v (.int .i64 p.1), .v p.2]) := by
 intro o hd ho hty
 subst hd; subst hc
 intro K ι S a w R
 obtain ⟨B, g, mg, h1, h2, h3, h4, h5, h6⟩ := R.itAt hx hit hm
 have hmem : ∀ (e : MapEntry), e ∈ ment M → ∃ i p, M[i]? = some p ∧ e = ⟨.int .i64 p.1, p.2, i⟩ := fun e he => by
  obtain ⟨i, hi, rfl⟩ := List.getElem_of_mem he
  have := List.getElem?_eq_getElem hi
  rw [ment_get] at this
  obtain ⟨p, hp, h⟩ := Option.map_eq_some_iff.1 this
  exact ⟨i, p, hp, h.symm⟩
 have hold : ∀ x ∈ (ment M).toArray.toList, x.born < M.length := fun x hx => by
  obtain ⟨i, p, hp, rfl⟩ := hmem x (by simpa using hx)
  exact (List.getElem?_eq_some_iff.1 hp).1
 rcases run_next_at (P := P) w o.type g mg M.length t seen (ment M).toArray M.length h4 h5 hold ht with ⟨h7, h8⟩ | ⟨e, he, w1, hw1, h8⟩
 ·have hrun : (execOp a.eval o).run P w = .ok (.value (.tuple #[.bool false])) w := by simp only [execOp, ho, h3, h8, Sem.run_map, Sem.run_bind, Sem.run_pure, Result.andThen_ok]
  refine yields_value hrun ⟨_, .inl ⟨fun i hi => ?_, rfl⟩, ι, S, R.put o.dst (.tup rfl fun j b hb => ?_) fun i hi => ?_⟩
  ·have h9 : (ment M)[i]? = some ⟨.int .i64 M[i].1, M[i].2, i⟩ := by rw [ment_get]; simp [hi]
   by_cases hs : i ∈ seen
   ·exact hs
   ·exfalso
    have : (⟨.int .i64 M[i].1, M[i].2, i⟩ : MapEntry) ∈ (leftOf (ment M).toArray seen).toList := by
     simp [leftOf, List.mem_of_getElem? h9, hs]
    have h10 := List.length_pos_of_mem this
    simp [h7] at h10
  ·cases j with
   | zero => cases hb; exact .v
   | succ j => simp at hb
  ·cases hi with
   | tup hm h => simp at hm; subst hm; cases h
 ·have hlt : g < w.heap.size := R.lt h1 h2
  obtain ⟨hk1, hk2, hk3⟩ := keeps_putAt (o := .mapIter (some mg) M.length (seen.push e.born) M.length) hw1 hlt
  have hl : e ∈ ment M ∧ e.born ∉ seen := by simpa [leftOf] using he
  obtain ⟨i, p, hp, rfl⟩ := hmem e hl.1
  have hrun : (execOp a.eval o).run P w = .ok (.value (.tuple #[.bool true, .int .i64 p.1, p.2])) (ChangeMaps.setBlock w1 g (.mapIter (some mg) M.length (seen.push i) M.length)) := by simp only [execOp, ho, h3, h8, Sem.run_map, Sem.run_bind, Sem.run_pure, Result.andThen_ok]
  have R1 := R.upd (o' := .it m M.length (seen.push i) M.length) hit h1 (hk1.mono fun k hk => by subst hk; exact h2) ⟨B, g, h1, h2, mg, hk2, h6⟩ (fun id' hi => by
   have : id' = m := hi
   subst this; rw [hm]; intro h; cases h)
  refine yields_value hrun ⟨_, .inr ⟨i, p, hp, hl.2, rfl⟩, ι, S, R1.put o.dst (.tup rfl fun j b hb => ?_) fun i hi => ?_⟩
  ·match j, hb with
   | 0, hb => cases hb; exact .v
   | 1, hb => cases hb; exact .v
   | 2, hb => cases hb; exact .v
   | j + 3, hb => simp at hb
  ·cases hi with
   | tup hm h => simp at hm; rcases hm with rfl | rfl | rfl <;> cases h
/-- The key and the value of the round. -/
theorem op_entryM {dd : Option Tmp} {ty : TypeId} (x : Operand) {it m : Oid} {M : List (Int × Value)} {seen : Array Nat} {s c i : Nat} {p : Int × Value} (hx : σ.eval x = .ptr it 0) (hit : σ.ob it = .obj (.it m s (seen.push i) c)) (hm : σ.ob m = .obj (.mp (ment M) c)) (hp : M[i]? = some p) :
  Stp P dd (.entry x) ty σ (σ.put dd (.tup [.v (.int .i64 p.1), .v p.2])) := by
 intro o hd ho hty
 subst hd
 refine step_val fun K ι S a w R => ?_
 obtain ⟨B, g, mg, h1, h2, h3, h4, h5, h6⟩ := R.itAt hx hit hm
 have he : (ment M)[i]? = some ⟨.int .i64 p.1, p.2, i⟩ := by rw [ment_get, hp]; rfl
 have hn : ((ment M).toArray.toList.map (·.born)).Nodup := by
  have : (ment M).map (·.born) = List.range M.length := by
   apply List.ext_getElem?
   intro j
   rw [List.getElem?_map, ment_get]
   by_cases hj : j < M.length
   ·simp [hj]
   ·simp [hj, List.getElem?_eq_none (Nat.le_of_not_lt hj)]
  simp only [this]
  exact List.nodup_range
 have h7 := run_entry_at (P := P) w g mg s seen (ment M).toArray c ⟨.int .i64 p.1, p.2, i⟩ h4 h5 (by simpa using List.mem_of_getElem? he) hn
 refine ⟨.tuple #[.int .i64 p.1, p.2], by simp only [execOp, ho, h3, h7, Sem.run_map, Sem.run_bind, Sem.run_pure, Result.andThen_ok], .tup rfl fun j b hb => ?_, fun i hi => ?_⟩
 ·match j, hb with
  | 0, hb => cases hb; exact .v
  | 1, hb => cases hb; exact .v
  | j + 2, hb => simp at hb
 ·cases hi with
  | tup hm h => simp at hm; rcases hm with rfl | rfl <;> cases h
end
end Go.Proofs.Ytkbkmngbenohkaa

namespace Go.Proofs.Ytkbkmngbenohkaa
open Go.RowKit Go.Shelf Go.Sort

def lay189 : Ren :=
  ⟨fun x => match x with
    | 189 => 121 | 125 => 138 | 257 => 137 | 128 => 149 | 129 => 150 | 294 => 140 | 295 => 141 | 296 => 142 | 297 => 143 | 298 => 144 | 299 => 145 | 216 => 146 | 300 => 147 | 301 => 148 | 328 => 152 | 329 => 153 | 330 => 154 | 331 => 155 | 332 => 156 | 215 => 157 | 343 => 158
    | n => n,
   fun x => match x with
    | 28 => 29 | 3 => 3 | 46 => 163 | 0 => 0 | 51 => 172 | 53 => 124 | 4 => 4 | 183 => 166 | 182 => 165 | 131 => 156 | 5 => 5 | 9 => 9 | 218 => 175 | 222 => 179 | 228 => 181 | 229 => 182
    | n => n,
   fun n => n⟩
theorem lays189 : Lays.n189 Try.prog lay189 :=
{ mixed := Eq.refl true, f125 := Eq.trans Try.func138 (congrArg some (Eq.refl (Body.n125 lay189))),
  f128 := Eq.trans Try.func149 (congrArg some (Eq.refl (Body.n128 lay189))),
  f129 := Eq.trans Try.func150 (congrArg some (Eq.refl (Body.n129 lay189))),
  f189 := Eq.trans Try.func121 (congrArg some (Eq.refl (Body.n189 lay189))),
  f215 := Eq.trans Try.func157 (congrArg some (Eq.refl (Body.n215 lay189))),
  f216 := Eq.trans Try.func146 (congrArg some (Eq.refl (Body.n216 lay189))),
  f257 := Eq.trans Try.func137 (congrArg some (Eq.refl (Body.n257 lay189))),
  f294 := Eq.trans Try.func140 (congrArg some (Eq.refl (Body.n294 lay189))),
  f295 := Eq.trans Try.func141 (congrArg some (Eq.refl (Body.n295 lay189))),
  f296 := Eq.trans Try.func142 (congrArg some (Eq.refl (Body.n296 lay189))),
  f297 := Eq.trans Try.func143 (congrArg some (Eq.refl (Body.n297 lay189))),
  f298 := Eq.trans Try.func144 (congrArg some (Eq.refl (Body.n298 lay189))),
  f299 := Eq.trans Try.func145 (congrArg some (Eq.refl (Body.n299 lay189))),
  f300 := Eq.trans Try.func147 (congrArg some (Eq.refl (Body.n300 lay189))),
  f301 := Eq.trans Try.func148 (congrArg some (Eq.refl (Body.n301 lay189))),
  f328 := Eq.trans Try.func152 (congrArg some (Eq.refl (Body.n328 lay189))),
  f329 := Eq.trans Try.func153 (congrArg some (Eq.refl (Body.n329 lay189))),
  f330 := Eq.trans Try.func154 (congrArg some (Eq.refl (Body.n330 lay189))),
  f331 := Eq.trans Try.func155 (congrArg some (Eq.refl (Body.n331 lay189))),
  f332 := Eq.trans Try.func156 (congrArg some (Eq.refl (Body.n332 lay189))),
  f343 := Eq.trans Try.func158 (congrArg some (Eq.refl (Body.n343 lay189))), t0 := Try.underlying0,
  a0 := Try.isAgg0, z0 := Try.sizeOf0, v0 := Try.zeroValue0, t3 := Try.underlying3, a3 := Try.isAgg3, z3 := Try.sizeOf3,
  v3 := Try.zeroValue3, t4 := Try.underlying4, a4 := Try.isAgg4, z4 := Try.sizeOf4, v4 := Try.zeroValue4,
  t5 := Try.underlying5, a5 := Try.isAgg5, z5 := Try.sizeOf5, v5 := Try.zeroValue5, t9 := Try.underlying9,
  a9 := Try.isAgg9, z9 := Try.sizeOf9, v9 := Try.zeroValue9, t28 := Try.underlying29, a28 := Try.isAgg29,
  z28 := Try.sizeOf29, v28 := Try.zeroValue29, t46 := Try.underlying163, a46 := Try.isAgg163, z46 := Try.sizeOf163,
  v46 := Try.zeroValue163, t51 := Try.underlying172, a51 := Try.isAgg172, z51 := Try.sizeOf172, v51 := Try.zeroValue172,
  t53 := Try.underlying124, a53 := Try.isAgg124, z53 := Try.sizeOf124, v53 := Try.zeroValue124,
  t131 := Try.underlying156, a131 := Try.isAgg156, z131 := Try.sizeOf156, v131 := Try.zeroValue156,
  t182 := Try.underlying165, a182 := Try.isAgg165, z182 := Try.sizeOf165, v182 := Try.zeroValue165,
  t183 := Try.underlying166, a183 := Try.isAgg166, z183 := Try.sizeOf166, v183 := Try.zeroValue166,
  t218 := Try.underlying175, a218 := Try.isAgg175, z218 := Try.sizeOf175, v218 := Try.zeroValue175,
  t222 := Try.underlying179, a222 := Try.isAgg179, z222 := Try.sizeOf179, v222 := Try.zeroValue179,
  t228 := Try.underlying181, a228 := Try.isAgg181, z228 := Try.sizeOf181, v228 := Try.zeroValue181,
  t229 := Try.underlying182, a229 := Try.isAgg182, z229 := Try.sizeOf182, v229 := Try.zeroValue182 }
theorem isl_ofCells {S : Nat → Prop} {w : World} {L : List Int} {cur : Array Value} (h : ∀ j, j < (isl L).length → ∃ u, cur[j]? = some u ∧ u.oneCell' = true ∧ ∀ p, (isl L)[j]? = some p → Rd S w p u) : cur.toList.take L.length = L.map (Value.int .i64) := by
  apply List.ext_getElem?
  intro j
  by_cases hj : j < L.length
  · obtain ⟨u, h1, _, h2⟩ := h j (by simpa using hj)
    have h3 : (isl L)[j]? = some (.v (.int .i64 L[j])) := by simp [isl, hj]
    have h4 := h2 _ h3
    cases h4
    rw [List.getElem?_take_of_lt hj, Array.getElem?_toList, h1]
    simp [hj]
  · rw [List.getElem?_take_eq_none (by omega), List.getElem?_eq_none (by simp; omega)]
theorem sortG_spec (n : Nat) (hn : n ≤ 4611686018427387903) (L : List Int) (hL : L.length = n) :
    Spec Try.prog 121 (inStI [.ref (0, 9) 0 n] [((0, 9), .row 3 1 (isl L))]) (outStI (.tup []) [((0, 9), .row 3 1 (isl (srt L)))] [(0, 9)] [(0, 9)]) := by
  by_cases h12 : n ≤ 12
  · exact sort_spec n h12 L hL
  intro K ι S vs w hK hrd R
  obtain ⟨B, hB, hsz, hrow⟩ := R.ob (0, 9) (.row 3 1 (isl L)) rfl
  have hvs := R.nt
  simp only [inStI, List.length_cons, List.length_nil] at hvs
  obtain ⟨v, rfl⟩ : ∃ v, vs = #[v] := by
    match vs, hvs with
    | ⟨[v]⟩, _ => exact ⟨v, rfl⟩
  have hv := R.fr 0 (by simp [inStI])
  simp only [inStI] at hv
  have hv : Rep ι S w (.ref (0, 9) 0 n) v := by simpa using hv
  rcases hrow with ⟨_, h0, _⟩ | ⟨g, cur, hg, hb, hcs, hle, hcell⟩
  · rw [isl_len] at h0; omega
  · cases hv with
    | ref hh h1 =>
      obtain ⟨c, hc1, hc2, hc3⟩ := hh B hB
      rw [hg] at hc3
      obtain ⟨o', rfl, ho, htot⟩ := hc3
      obtain rfl := ho.resolve_right (by omega)
      have htk := isl_ofCells hcell
      have hlt : g < w.heap.size := (Array.getElem?_eq_some_iff.1 hb).1
      subst hL
      have hC := Any.slices_Sort_int lays189 g 0 c L w (holds_of_blockI hb htk) hlt (by omega)
      refine hC.mono ?_
      rintro e w' ⟨rfl, m, os, rfl⟩
      have hgr := grownBy_sortedI (w := w) (g := g) (n := m) (os := os) (srt L).toArray
      have hkeep : Keeps (fun k => B.g = some k) w (grow (putRow (Value.int .i64) (Sort.ahead w m) g 0 (srt L).toArray) os) := (Keeps.grown hgr).mono fun k hk => by rw [hg]; exact hk
      have hnew := heap_sortedI (n := m) (os := os) (srt L).toArray hb
      have R1 := R.upd (o' := .row 3 1 (isl (srt L))) (id := (0, 9)) rfl hB hkeep ⟨B, hB, hsz, .inr ⟨g, _, hg, hnew, by simp [putCells, hcs], by simp [putCells] at hle ⊢; omega, fun j hj => ?_⟩⟩ (fun i hi => hi.elim)
      · have R2 := R1.put (some 0) (av := .tup []) (v := .tuple #[]) (.tup rfl fun j b hb => by simp at hb) (fun id hi => by cases hi with | tup hm _ => simp at hm)
        refine ⟨.tuple #[], ι, S, rfl, ?_⟩
        have e1 : ((inStI [.ref (0, 9) 0 L.length] [((0, 9), .row 3 1 (isl L))]).setOb (0, 9) (.obj (.row 3 1 (isl (srt L))))).put (some 0) (.tup []) = outStI (.tup []) [((0, 9), .row 3 1 (isl (srt L)))] [(0, 9)] [(0, 9)] := by
          refine St.eq rfl (fun t => ?_) (fun i => ?_) rfl rfl
          · show (bif Nat.beq t 0 then _ else _) = (bif Nat.beq t 0 then _ else _)
            cases h : Nat.beq t 0 with
            | true => rfl
            | false =>
              cases t with
              | zero => simp at h
              | succ t => simp [inStI, St.setOb]
          · show (bif oeq i (0, 9) then _ else bif oeq i (0, 9) then _ else Slot.free) = bif oeq i (0, 9) then _ else Slot.free
            cases oeq i (0, 9) <;> rfl
        rw [e1] at R2
        exact R2
      · have hj' : j < L.length := by simpa using hj
        refine ⟨.int .i64 ((srt L).getD j 0), ?_, rfl, fun p hp => ?_⟩
        · have htk2 := take_putCellsI cur (srt L) (by rw [srt_len]; rw [isl_len] at hle; exact hle)
          have h3 := congrArg (fun l => l[j]?) htk2
          simp only [srt_len] at h3
          rw [List.getElem?_take_of_lt hj', Array.getElem?_toList] at h3
          rw [h3]
          simp [List.getD_eq_getElem?_getD, hj']
        · rw [isl_get _ _ (by simpa using hj')] at hp
          cases hp
          exact .v rfl
end Go.Proofs.Ytkbkmngbenohkaa
