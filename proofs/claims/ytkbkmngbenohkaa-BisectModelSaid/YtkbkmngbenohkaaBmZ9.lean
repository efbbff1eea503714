/- Part 9 of the texts that the walk leans on: the machine, the walks, the plain laws. -/
import Derived.Test.YtkbkmngbenohkaaBmZ8
set_option linter.unusedSimpArgs false
set_option linter.unusedVariables false
namespace Go.Proofs.Ytkbkmngbenohkaa
open Go.RowKit

def pwL (n : Nat) (Ps : List (List Int)) (v j : Nat) : List Nat := (List.range n).map fun u => if u < v then pw (Ps.getD u []) else if u = v then pw ((Ps.getD v []).take j) else 0
@[simp] theorem pwL_len (n : Nat) (Ps : List (List Int)) (v j : Nat) : (pwL n Ps v j).length = n := by simp [pwL]
theorem pwL_zero (n : Nat) (Ps : List (List Int)) : pwL n Ps 0 0 = List.replicate n 0 := by
 apply List.ext_getElem
 ·simp
 ·intro i h1 h2
  simp only [pwL, List.getElem_map, List.getElem_range, List.getElem_replicate]
  rw [if_neg (by omega)]
  split <;> rfl
theorem pwL_next (n : Nat) (Ps : List (List Int)) (v : Nat) : pwL n Ps v (Ps.getD v []).length = pwL n Ps (v + 1) 0 := by
 unfold pwL
 refine List.map_congr_left fun u _ => ?_
 rw [List.take_length, List.take_zero]
 by_cases h1 : u < v
 ·rw [if_pos h1, if_pos (by omega)]
 ·rw [if_neg h1]
  by_cases h2 : u = v
  ·subst h2; rw [if_pos rfl, if_pos (by omega)]
  ·rw [if_neg h2, if_neg (by omega)]
   split <;> rfl
theorem pwL_get {n : Nat} {Ps : List (List Int)} {v j : Nat} (h : v < n) : (pwL n Ps v j).getD v 0 = pw ((Ps.getD v []).take j) := by
 unfold pwL
 rw [List.getD_eq_getElem?_getD, List.getElem?_map, List.getElem?_range h, Option.map_some, Option.getD_some, if_neg (Nat.lt_irrefl _), if_pos rfl]
theorem pwL_getF {n : Nat} {Ps : List (List Int)} {v j u : Nat} (h : u < n) (hu : u < v) : (pwL n Ps v j).getD u 0 = pw (Ps.getD u []) := by
 unfold pwL
 rw [List.getD_eq_getElem?_getD, List.getElem?_map, List.getElem?_range h, Option.map_some, Option.getD_some, if_pos hu]
theorem pwL_succ {n : Nat} {Ps : List (List Int)} {v j b : Nat} (hj : j < (Ps.getD v []).length) (hb : (Ps.getD v []).getD j 0 = (b : Int)) : pwL n Ps v (j + 1) = (pwL n Ps v j).set v (pw ((Ps.getD v []).take j) ||| 2 ^ b) := by
 apply List.ext_getElem
 ·simp
 ·intro i h1 h2
  rw [List.getElem_set]
  simp only [pwL, List.getElem_map, List.getElem_range]
  by_cases h3 : v = i
  ·subst h3; rw [if_neg (Nat.lt_irrefl _), if_pos rfl, if_pos rfl, take1 0 hj, pw_snoc, hb, Int.toNat_natCast]
  ·rw [if_neg h3]
   by_cases h4 : i < v
   ·rw [if_pos h4, if_pos h4]
   ·rw [if_neg h4, if_neg (by omega), if_neg h4, if_neg (by omega)]
def parW (Ps : List (List Int)) : List Nat := Ps.map pw
@[simp] theorem parW_len (Ps : List (List Int)) : (parW Ps).length = Ps.length := by simp [parW]
theorem pwL_full (Ps : List (List Int)) : pwL Ps.length Ps Ps.length 0 = parW Ps := by
 apply List.ext_getElem
 ·simp
 ·intro i h1 h2
  have hi : i < Ps.length := by simpa using h1
  simp only [pwL, parW, List.getElem_map, List.getElem_range]
  rw [if_pos hi, List.getD_eq_getElem?_getD, List.getElem?_eq_getElem hi]; rfl
theorem parW_get {Ps : List (List Int)} {v : Nat} (h : v < Ps.length) : (parW Ps).getD v 0 = pw (Ps.getD v []) := by
 simp [parW, List.getD_eq_getElem?_getD, h]
theorem pw_ok {n : Nat} (hn : n ≤ 64) {l : List Int} (h : OkP n l) : pw l < 18446744073709551616 := pw_lt l fun p hp => by have := h.2 p hp; omega
theorem parW_lt {Ps : List (List Int)} (hV : Valid Ps) (hn : Ps.length ≤ 64) (v : Nat) : (parW Ps).getD v 0 < 18446744073709551616 := by
 by_cases h : v < Ps.length
 ·rw [parW_get h]; exact pw_ok hn (hV v h)
 ·rw [List.getD_eq_getElem?_getD, List.getElem?_eq_none (by simp; omega)]; decide
theorem parW_bit {Ps : List (List Int)} (hV : Valid Ps) {v : Nat} (h : v < Ps.length) (p : Nat) : ((parW Ps).getD v 0).testBit p = true ↔ ((p : Int), (v : Int)) ∈ edg Ps Ps.length 0 := by
 rw [parW_get h, pw_bit _ _ fun x hx => ((hV v h).2 x hx).1, decide_eq_true_eq, edg_par h]
theorem parW_pw {Ps : List (List Int)} (hV : Valid Ps) (hn : Ps.length ≤ 64) : PW Ps.length (edg Ps Ps.length 0) (parW Ps) :=
 ⟨edg_in hV, hn, parW_len Ps, parW_lt hV hn, fun v hv p => parW_bit hV hv p⟩
theorem aw1_lt {n : Nat} (hn : n ≤ 64) (E : Prs) (v : Nat) : aw1 n E v < 18446744073709551616 := cw_lt n _ hn
theorem ancW_get {n : Nat} {E : Prs} {v : Nat} (h : v < n) : (ancW n E).getD v 0 = aw1 n E v := by simp [ancW, List.getD_eq_getElem?_getD, h]
theorem ancW_lt {n : Nat} (hn : n ≤ 64) (E : Prs) (v : Nat) : (ancW n E).getD v 0 < 18446744073709551616 := by
 by_cases h : v < n
 ·rw [ancW_get h]; exact aw1_lt hn E v
 ·rw [List.getD_eq_getElem?_getD, List.getElem?_eq_none (by simp; omega)]; decide
def parE (Ps : List (List Int)) (v : Nat) : List Nat := els (pw (Ps.getD v []))
theorem parE_mem {Ps : List (List Int)} (hV : Valid Ps) (hn : Ps.length ≤ 64) {v : Nat} (h : v < Ps.length) (p : Nat) : p ∈ parE Ps v ↔ ((p : Int), (v : Int)) ∈ edg Ps Ps.length 0 := by
 rw [parE, els_mem, ← parW_get h, parW_bit hV h]
 constructor
 ·exact fun h => h.2
 ·intro he
  have := (Clo.lt (edg_in hV) (.one he)).1
  exact ⟨by omega, he⟩
theorem ul_zeros (n : Nat) : (rep n [Value.int .u64 0]).map PV.v = ul (List.replicate n 0) := by rw [rep_one]; simp [ul]
theorem ul_put (a : List Nat) (k : Nat) (x : Nat) (h : k < a.length) : putL (ul a) k [.v (.int .u64 (x : Int))] = ul (a.set k x) := by rw [putL_one _ _ _ (by simpa using h)]; simp [ul, List.map_set]
theorem ul_get_set (l : List Nat) (k x : Nat) (h : k < l.length) : (ul (l.set k x))[k]? = some (.v (.int .u64 (x : Int))) := by
 rw [ul_get _ _ (by simpa using h), getD_set]; simp [h]
open Classical in
noncomputable def newV (Ps : List (List Int)) : AV :=
 if 64 < Ps.length then .tup [.v (.pointer none), .v (.int .i64 2)]
 else if ¬ Valid Ps then .tup [.v (.pointer none), .v (.int .i64 1)]
 else if ∃ a, a < Ps.length ∧ Clo (edg Ps Ps.length 0) a a then .tup [.v (.pointer none), .v (.int .i64 9)]
 else .tup [.fp 0 (gra Ps.length (parW Ps) (ancW Ps.length (edg Ps Ps.length 0))), .v (.int .i64 0)]
theorem okp_snoc {n : Nat} {l : List Int} {p : Int} (h : OkP n l) (h0 : 0 ≤ p) (h1 : p < (n : Int)) (hp : p ∉ l) : OkP n (l ++ [p]) := by
 refine ⟨?_, fun x hx => ?_⟩
 ·rw [List.nodup_append]
  exact ⟨h.1, by simp, fun x hx y hy => by simp at hy; subst hy; exact fun e => hp (e ▸ hx)⟩
 ·rcases List.mem_append.1 hx with hx | hx
  ·exact h.2 x hx
  ·simp at hx; omega
theorem ul_get_other (l : List Nat) (a k x : Nat) (h : k < l.length) (hne : k ≠ a) : (ul (l.set a x))[k]? = some (.v (.int .u64 ((l.getD k 0 : Nat) : Int))) := by
 rw [ul_get _ _ (by simpa using h), getD_set, if_neg (by simp [hne])]
theorem newV_arg {Ps : List (List Int)} (h : ¬ 64 < Ps.length) (hv : ¬ Valid Ps) : newV Ps = .tup [.v (.pointer none), .v (.int .i64 1)] := by
 unfold newV; rw [if_neg h, if_pos hv]
theorem newV_cyc {Ps : List (List Int)} (h : ¬ 64 < Ps.length) (hv : Valid Ps) (hc : ∃ a, a < Ps.length ∧ Clo (edg Ps Ps.length 0) a a) : newV Ps = .tup [.v (.pointer none), .v (.int .i64 9)] := by
 unfold newV; rw [if_neg h, if_neg (fun h => h hv), if_pos hc]
theorem newV_ok {Ps : List (List Int)} (h : ¬ 64 < Ps.length) (hv : Valid Ps) (hc : ¬ ∃ a, a < Ps.length ∧ Clo (edg Ps Ps.length 0) a a) : newV Ps = .tup [.fp 0 (gra Ps.length (parW Ps) (ancW Ps.length (edg Ps Ps.length 0))), .v (.int .i64 0)] := by
 unfold newV; rw [if_neg h, if_neg (fun h => h hv), if_neg hc]
theorem cast_get {l : List Nat} {k : Nat} : (l.map fun (x : Nat) => (x : Int)).getD k 0 = ((l.getD k 0 : Nat) : Int) := by
 simp only [List.getD_eq_getElem?_getD, List.getElem?_map]
 cases l[k]? <;> rfl
set_option maxHeartbeats 2000000 in
theorem vnew_spec (n : Nat) (Ps : List (List Int)) (hPs : Ps.length = n) (hn1 : n ≤ 1000) (hm : ∀ v, (Ps.getD v []).length ≤ 100) (hS : Valid Ps → n ≤ 64 → ∀ a, a < n → (nxt (edg Ps n 0) a).length ≤ 12) :
  Spec Try.prog 58 (inSt [.sl n (nrows Ps)] []) (outSt (newV Ps) []) := by
 have hnr : (nrows Ps).length = n := by simp [nrows, hPs]
 refine Spec.ofN Try.func58 rfl Try.ntmps58 rfl ?_
 refine D_seq fun K1 hK1 => ?_
 refine D_region ?_
 refine DL_c (op_as _ (rfl : _ = AV.v _)) ?_
 refine DL_c (asI rfl) ?_
 refine DL_nil (hK1 _ ?_)
 clear hK1; try clear K1
 refine D_seq fun K2 hK2 => ?_
 refine D_region ?_
 refine DL_c (mvS rfl) ?_
 refine DL_c (op_lenS _ inferInstance rfl) ?_
 refine DL_c (asI rfl) ?_
 refine DL_nil (hK2 _ ?_)
 clear hK2; try clear K2
 refine D_seq fun K3 hK3 => ?_
 refine D_seq fun K4 hK4 => ?_
 refine D_region ?_
 refine DL_c (mvI rfl) ?_
 refine DL_c (op_gtr _ _ rfl rfl rfl) ?_
 refine DL_nil (hK4 _ ?_)
 clear hK4; try clear K4
 refine D_splitC rfl (fun hc20 => ?_) (fun hc20 => ?_)
 ·skip
  refine D_seq fun K5 hK5 => ?_
  refine D_region ?_
  refine DL_c (op_as _ (rfl : _ = AV.v _)) ?_
  refine DL_c (asI rfl) ?_
  refine DL_nil (hK5 _ ?_)
  clear hK5; try clear K5
  refine D_ret ?_
  rw [show newV Ps = .tup [.v (.pointer none), .v (.int .i64 2)] from if_pos (by omega)]
  exact ret2 (.inr rfl) rfl (.tmp (rfl : _ = AV.v _)) (.tmp (rfl : _ = AV.v _)) (Le.out [] [] (.tup rfl (lv_cons .v (lv_cons .v lv_nil))) rfl rfl rfl trivial trivial)
 ·skip
  have hedl := fun v j => edg_len hm v j
  refine D_skip (hK3 _ ?_)
  clear hK3; try clear K3
  refine D_seq fun K6 hK6 => ?_
  refine D_le (σ' := mkStI 135 [(0, _), (4, _)] [] [] []) (by
   refine Le.mkJ [] [] rfl ?_ ?_ trivial trivial ?_
   ·exact ⟨(iS rfl), (iV rfl), trivial⟩
   ·exact trivial
   ·kernel_rfl) ?_
  refine D_anyL 7 [21, 22, 23, 24, 25, 26, 5] [(22, 0), (24, 0), (26, 0)] (by kernel_rfl) (by kernel_rfl) rfl (nodupO_iff rfl) (rfl : _ = [_, _, _, _, _, _, _]) (rfl : _ = []) ?_
  refine any_c (_, []) (fun τ => op_mv _ (rfl : _ = AV.v (.int _ _))) ?_
  refine any_n (rfl : _ = [_]) ?_
  refine any_c (_, [((22, 0), _)]) (fun τ => op_mk (xs := ul (List.replicate n 0)) (22, 0) _ _ inferInstance rfl rfl n rfl rfl (by omega) rfl (ul_zeros n)) ?_
  refine any_n (rfl : _ = [_, _]) ?_
  refine any_c (_, []) (fun τ => op_mv _ (rfl : _ = AV.v (.int _ _))) ?_
  refine any_n (rfl : _ = [_, _, _]) ?_
  refine any_c (_, [((24, 0), _)]) (fun τ => op_mk (xs := ul (List.replicate n 0)) (24, 0) _ _ inferInstance rfl rfl n rfl rfl (by omega) rfl (ul_zeros n)) ?_
  refine any_n (rfl : _ = [_, _, _, _]) ?_
  refine any_c (_, []) (fun τ => op_build (ys := [.ref (22, 0) 0 n, .ref (24, 0) 0 n]) _ inferInstance rfl rfl) ?_
  refine any_n (rfl : _ = [_, _, _, _, _]) ?_
  refine any_c (_, [((26, 0), _)]) (fun τ => op_box (26, 0) _ rfl rfl) ?_
  refine any_n (rfl : _ = [_, _, _, _, _, _]) ?_
  refine any_c (_, []) (fun τ => op_as _ (rfl : _ = AV.ptr _ _)) ?_
  refine any_n (rfl : _ = [_, _, _, _, _, _, _]) ?_
  refine any_end ⟨rfl, ?_⟩
  refine DL_nil (hK6 _ ?_)
  clear hK6; try clear K6
  refine D_seq fun K7 hK7 => ?_
  refine D_region ?_
  refine DL_c (op_asN (6, 0) _ 38 2 rfl rfl) ?_
  refine DL_nil (hK7 _ ?_)
  clear hK7; try clear K7
  refine D_seq fun K8 hK8 => ?_
  refine D_seq fun K9 hK9 => ?_
  refine D_region ?_
  refine DL_c (mvS rfl) ?_
  refine DL_c (op_lenS _ inferInstance rfl) ?_
  refine DL_c (mvI rfl) ?_
  refine DL_nil (hK9 _ ?_)
  clear hK9; try clear K9
  refine D_block ?_
  refine D_loopL (α := Nat) (fun v => v ≤ n ∧ ∀ u, u < v → OkP n (Ps.getD u [])) 135 [(4, _), (5, _), (27, _), (28, _)] [((24, 0), _), ((26, 0), _)] (fun v => [(29, .v (.int .i64 (v : Int))), (6, .ref (6, 0) 0 (edg Ps v 0).length)]) (fun v => [((6, 0), .row 38 2 (psl (edg Ps v 0))), ((22, 0), .row 125 1 (ul (pwL n Ps v 0)))]) [] [] (fun v => n - v) 0 ?_ (by
   refine Le.mkJ [] [] rfl ?_ ?_ trivial trivial ?_
   ·exact ⟨(iV rfl), (iP rfl), (iS rfl), (iV rfl), (lvI (by rfl)), (lvRr rfl (by rfl)), trivial⟩
   ·exact ⟨(obE rfl rfl rfl), (obE rfl rfl rfl), (obR rfl rfl rfl (by rfl)), (obR rfl rfl rfl (by rw [pwL_zero])), trivial⟩
   ·kernel_rfl) ?_
  ·exact ⟨by omega, fun u hu => by omega⟩
  intro v hv
  obtain ⟨hv, hok⟩ := hv
  refine D_seq fun K10 hK10 => ?_
  refine D_region ?_
  refine DL_c (op_lss _ _ rfl rfl rfl) ?_
  refine DL_nil (hK10 _ ?_)
  clear hK10; try clear K10
  refine D_seq fun K11 hK11 => ?_
  refine D_splitC rfl (fun hc30 => ?_) (fun hc30 => ?_)
  ·skip
   have hvl := hm v
   have hok0 : OkP n ((Ps.getD v []).take 0) := ⟨by simp, fun p hp => by simp at hp⟩
   refine D_skip (hK11 _ ?_)
   clear hK11; try clear K11
   refine D_seq fun K12 hK12 => ?_
   refine D_block ?_
   refine D_seq fun K13 hK13 => ?_
   refine D_region ?_
   refine DL_c (mvI rfl) ?_
   refine DL_c (op_ixS _ _ inferInstance rfl rfl v rfl (by omega) (by omega) (Nat.mul_one _)) ?_
   refine DL_c (op_ldF _ inferInstance rfl (by exact nrows_get _ _ (by omega)) rfl) ?_
   refine DL_c (asI rfl) ?_
   refine DL_c (asS rfl) ?_
   refine DL_nil (hK13 _ ?_)
   clear hK13; try clear K13
   refine D_seq fun K14 hK14 => ?_
   refine D_region ?_
   refine DL_c (mvS rfl) ?_
   refine DL_c (op_lenS _ inferInstance rfl) ?_
   refine DL_c (mvI rfl) ?_
   refine DL_nil (hK14 _ ?_)
   clear hK14; try clear K14
   refine D_block ?_
   refine D_loopL (α := Nat) (fun j => j ≤ (Ps.getD v []).length ∧ OkP n ((Ps.getD v []).take j)) 135 [(4, _), (5, _), (7, _), (27, _), (28, _), (29, _), (34, _), (35, _)] [((24, 0), _), ((26, 0), _)] (fun j => [(36, .v (.int .i64 (j : Int))), (6, .ref (6, 0) 0 (edg Ps v j).length)]) (fun j => [((6, 0), .row 38 2 (psl (edg Ps v j))), ((22, 0), .row 125 1 (ul (pwL n Ps v j)))]) [] [] (fun j => (Ps.getD v []).length - j) 0 ?_ (by
    refine Le.mkJ [] [] rfl ?_ ?_ trivial trivial ?_
    ·exact ⟨(iV rfl), (iP rfl), (iV rfl), (iS rfl), (iV rfl), (iV rfl), (by exact iS rfl), (iV rfl), (lvI (by rfl)), (lvRr rfl (by rfl)), trivial⟩
    ·exact ⟨(obE rfl rfl rfl), (obE rfl rfl rfl), (obR rfl rfl rfl (by rfl)), (obR rfl rfl rfl (by rfl)), trivial⟩
    ·kernel_rfl) ?_
   ·exact ⟨by omega, hok0⟩
   intro j hj
   obtain ⟨hj, hoj⟩ := hj
   have hel := hedl v j
   have hvm : v * 100 ≤ 6400 := by omega
   refine D_seq fun K15 hK15 => ?_
   refine D_region ?_
   refine DL_c (op_lss _ _ rfl rfl rfl) ?_
   refine DL_nil (hK15 _ ?_)
   clear hK15; try clear K15
   refine D_seq fun K16 hK16 => ?_
   refine D_splitC rfl (fun hc37 => ?_) (fun hc37 => ?_)
   ·skip
    have hpl := pwL_len n Ps v j
    have hpg := pwL_get (n := n) (Ps := Ps) (v := v) (j := j) (by omega)
    have hwl := pw_ok (by omega) hoj
    refine D_skip (hK16 _ ?_)
    clear hK16; try clear K16
    refine D_seq fun K17 hK17 => ?_
    refine D_block ?_
    refine D_seq fun K18 hK18 => ?_
    refine D_region ?_
    refine DL_c (op_ixS _ _ inferInstance rfl rfl _ rfl (by omega) (by (simp only [isl_len, bsl_len, psl_len, mrows_len, nsl_len, ws_len, List.length_map, ul_len, pwL_len, asts_len, psl_len]; omega)) (by exact Nat.mul_one _)) ?_
    refine DL_c (op_ldF _ inferInstance rfl (by exact isl_get _ _ (by omega)) rfl) ?_
    refine DL_c (asI rfl) ?_
    refine DL_nil (hK18 _ ?_)
    clear hK18; try clear K18
    refine D_seq fun K19 hK19 => ?_
    refine D_seq fun K20 hK20 => ?_
    refine D_region ?_
    refine DL_c (mvI rfl) ?_
    refine DL_c (op_lss _ _ rfl rfl rfl) ?_
    refine DL_c (mvB rfl) ?_
    refine DL_caseC (fun hg42 => ?_) (fun hg42 => ?_)
    ·skip
     have hbad : ¬ Valid Ps := fun hV => by have := (hV v (by omega)).2 _ (getD_memI (show j < (Ps.getD v []).length by omega)); omega
     refine DL_cn rfl rfl (by decide) ?_
     refine DL_cn rfl rfl (by decide) ?_
     refine DL_cn rfl rfl (by decide) ?_
     refine DL_c (op_pick _ _ _ rfl (rfl : _ = AV.v (.bool _))) ?_
     refine DL_c (mvB rfl) ?_
     refine DL_cn rfl rfl (by decide) ?_
     refine DL_cn rfl rfl (by decide) ?_
     refine DL_cn rfl rfl (by decide) ?_
     refine DL_cn rfl rfl (by decide) ?_
     refine DL_cn rfl rfl (by decide) ?_
     refine DL_cn rfl rfl (by decide) ?_
     refine DL_cn rfl rfl (by decide) ?_
     refine DL_cn rfl rfl (by decide) ?_
     refine DL_cn rfl rfl (by decide) ?_
     refine DL_c (op_pick _ _ _ rfl (rfl : _ = AV.v (.bool _))) ?_
     refine DL_nil (hK20 _ ?_)
     clear hK20; try clear K20
     refine D_cT rfl rfl ?_
     refine D_seq fun K21 hK21 => ?_
     refine D_le (σ' := mkStI 135 [] [] [] []) (by
      refine Le.mkJ [] [] rfl ?_ ?_ trivial trivial ?_
      ·exact trivial
      ·exact trivial
      ·kernel_rfl) ?_
     refine D_region ?_
     refine DL_c (op_as _ (rfl : _ = AV.v _)) ?_
     refine DL_c (asI rfl) ?_
     refine DL_nil (hK21 _ ?_)
     clear hK21; try clear K21
     refine D_ret ?_
     rw [newV_arg (by omega) hbad]
     exact ret2 (.inr rfl) rfl (.tmp (rfl : _ = AV.v _)) (.tmp (rfl : _ = AV.v _)) (Le.out [] [] (.tup rfl (lv_cons .v (lv_cons .v lv_nil))) rfl rfl rfl trivial trivial)
    ·skip
     refine DL_cy rfl rfl (mvI rfl) ?_
     refine DL_cy rfl rfl (mvI rfl) ?_
     refine DL_cy rfl rfl (op_geq _ _ rfl rfl rfl) ?_
     refine DL_c (op_pick _ _ _ rfl (rfl : _ = AV.v (.bool _))) ?_
     refine DL_c (mvB rfl) ?_
     refine DL_caseC (fun hg47 => ?_) (fun hg47 => ?_)
     ·skip
      have hbad : ¬ Valid Ps := fun hV => by have := (hV v (by omega)).2 _ (getD_memI (show j < (Ps.getD v []).length by omega)); omega
      refine DL_cn rfl rfl (by decide) ?_
      refine DL_cn rfl rfl (by decide) ?_
      refine DL_cn rfl rfl (by decide) ?_
      refine DL_cn rfl rfl (by decide) ?_
      refine DL_cn rfl rfl (by decide) ?_
      refine DL_cn rfl rfl (by decide) ?_
      refine DL_cn rfl rfl (by decide) ?_
      refine DL_cn rfl rfl (by decide) ?_
      refine DL_cn rfl rfl (by decide) ?_
      refine DL_c (op_pick _ _ _ rfl (rfl : _ = AV.v (.bool _))) ?_
      refine DL_nil (hK20 _ ?_)
      clear hK20; try clear K20
      refine D_cT rfl rfl ?_
      refine D_seq fun K22 hK22 => ?_
      refine D_le (σ' := mkStI 135 [] [] [] []) (by
       refine Le.mkJ [] [] rfl ?_ ?_ trivial trivial ?_
       ·exact trivial
       ·exact trivial
       ·kernel_rfl) ?_
      refine D_region ?_
      refine DL_c (op_as _ (rfl : _ = AV.v _)) ?_
      refine DL_c (asI rfl) ?_
      refine DL_nil (hK22 _ ?_)
      clear hK22; try clear K22
      refine D_ret ?_
      rw [newV_arg (by omega) hbad]
      exact ret2 (.inr rfl) rfl (.tmp (rfl : _ = AV.v _)) (.tmp (rfl : _ = AV.v _)) (Le.out [] [] (.tup rfl (lv_cons .v (lv_cons .v lv_nil))) rfl rfl rfl trivial trivial)
     ·skip
      obtain ⟨b, hbe⟩ := Int.eq_ofNat_of_zero_le hg42
      have hbit := pw_bit b ((Ps.getD v []).take j) fun p hp => (hoj.2 p hp).1
      refine DL_cy rfl rfl (op_mv _ (rfl : _ = AV.ptr _ _)) ?_
      refine DL_cy rfl rfl (op_nilp _ rfl rfl) ?_
      refine DL_cy rfl rfl (op_fldP _ inferInstance rfl rfl rfl) ?_
      refine DL_cy rfl rfl (op_ldB _ inferInstance rfl rfl (rfl : _ = some (AV.ref _ _ _))) ?_
      refine DL_cy rfl rfl (mvI rfl) ?_
      refine DL_cy rfl rfl (op_ixR _ _ inferInstance rfl rfl rfl v rfl (by omega) (by exact (Nat.zero_add _).trans (Nat.mul_one _))) ?_
      refine DL_cy rfl rfl (op_ldR _ inferInstance rfl rfl (by exact (ul_get _ _ (by omega)).trans (by rw [hpg])) rfl) ?_
      refine DL_cy rfl rfl (mvI rfl) ?_
      refine DL_cy rfl rfl (op_callH inferInstance (by repeat' (first | exact argsLv_nil | refine argsLv_cons ?_ ?_ | exact Lv.v | exact lvI (by omega))) (vhas_spec (pw ((Ps.getD v []).take j)) b hwl (by omega)) rfl rfl) ?_
      refine DL_c (op_pick _ _ _ rfl (rfl : _ = AV.v (.bool _))) ?_
      refine DL_nil (hK20 _ ?_)
      clear hK20; try clear K20
      refine D_splitC rfl (fun hc57 => ?_) (fun hc57 => ?_)
      ·skip
       have hbad : ¬ Valid Ps := fun hV => by
        have h1 := (hV v (by omega)).1
        rw [hbit, decide_eq_true_eq, ← hbe] at hc57
        rw [← List.take_append_drop j (Ps.getD v []), List.nodup_append, drop1 (by omega)] at h1
        exact h1.2.2 _ hc57 _ List.mem_cons_self rfl
       refine D_seq fun K23 hK23 => ?_
       refine D_le (σ' := mkStI 135 [] [] [] []) (by
        refine Le.mkJ [] [] rfl ?_ ?_ trivial trivial ?_
        ·exact trivial
        ·exact trivial
        ·kernel_rfl) ?_
       refine D_region ?_
       refine DL_c (op_as _ (rfl : _ = AV.v _)) ?_
       refine DL_c (asI rfl) ?_
       refine DL_nil (hK23 _ ?_)
       clear hK23; try clear K23
       refine D_ret ?_
       rw [newV_arg (by omega) hbad]
       exact ret2 (.inr rfl) rfl (.tmp (rfl : _ = AV.v _)) (.tmp (rfl : _ = AV.v _)) (Le.out [] [] (.tup rfl (lv_cons .v (lv_cons .v lv_nil))) rfl rfl rfl trivial trivial)
      ·skip
       rw [hbit, decide_eq_false_iff_not, ← hbe] at hc57
       refine D_skip (hK19 _ ?_)
       clear hK19; try clear K19
       refine D_seq fun K24 hK24 => ?_
       refine D_le (σ' := mkStI 135 [(4, _), (5, _), (6, _), (7, _), (10, _), (27, _), (28, _), (29, _), (34, _), (35, _), (36, _)] [((24, 0), _), ((26, 0), _), ((6, 0), _), ((22, 0), _)] [] []) (by
        refine Le.mkJ [] [] rfl ?_ ?_ trivial trivial ?_
        ·exact ⟨(iV rfl), (iP rfl), (iR rfl), (iV rfl), (iV rfl), (iS rfl), (iV rfl), (iV rfl), (by exact iS rfl), (iV rfl), (iV rfl), trivial⟩
        ·exact ⟨(obE rfl rfl rfl), (obE rfl rfl rfl), (obE rfl rfl rfl), (obE rfl rfl rfl), trivial⟩
        ·kernel_rfl) ?_
       refine D_anyL 15 [58, 59, 60, 61, 62, 63, 64, 65, 66, 67, 68, 69, 70, 71, 72] [] (by kernel_rfl) (by kernel_rfl) rfl (nodupO_iff rfl) (rfl : _ = [_, _, _, _, _, _, _, _, _, _, _, _, _, _, _]) (rfl : _ = [_]) ?_
       refine any_c (_, []) (fun τ => op_mv _ (rfl : _ = AV.ptr _ _)) ?_
       refine any_n (rfl : _ = [_]) ?_
       refine any_c (_, []) (fun τ => op_nilp _ rfl rfl) ?_
       refine any_n (rfl : _ = [_, _]) ?_
       refine any_c (_, []) (fun τ => op_fldP _ inferInstance rfl rfl rfl) ?_
       refine any_n (rfl : _ = [_, _, _]) ?_
       refine any_c (_, []) (fun τ => op_ldB _ inferInstance rfl rfl (rfl : _ = some (AV.ref _ _ _))) ?_
       refine any_n (rfl : _ = [_, _, _, _]) ?_
       refine any_c (_, []) (fun τ => op_mv _ (rfl : _ = AV.v (.int _ _))) ?_
       refine any_n (rfl : _ = [_, _, _, _, _]) ?_
       refine any_c (_, []) (fun τ => op_mv _ (rfl : _ = AV.ptr _ _)) ?_
       refine any_n (rfl : _ = [_, _, _, _, _, _]) ?_
       refine any_c (_, []) (fun τ => op_nilp _ rfl rfl) ?_
       refine any_n (rfl : _ = [_, _, _, _, _, _, _]) ?_
       refine any_c (_, []) (fun τ => op_fldP _ inferInstance rfl rfl rfl) ?_
       refine any_n (rfl : _ = [_, _, _, _, _, _, _, _]) ?_
       refine any_c (_, []) (fun τ => op_ldB _ inferInstance rfl rfl (rfl : _ = some (AV.ref _ _ _))) ?_
       refine any_n (rfl : _ = [_, _, _, _, _, _, _, _, _]) ?_
       refine any_c (_, []) (fun τ => op_mv _ (rfl : _ = AV.v (.int _ _))) ?_
       refine any_n (rfl : _ = [_, _, _, _, _, _, _, _, _, _]) ?_
       refine any_c (_, []) (fun τ => op_ixR _ _ inferInstance rfl rfl rfl v rfl (by omega) (by exact (Nat.zero_add _).trans (Nat.mul_one _))) ?_
       refine any_n (rfl : _ = [_, _, _, _, _, _, _, _, _, _, _]) ?_
       refine any_c (_, []) (fun τ => op_ldR _ inferInstance rfl rfl (by exact (ul_get _ _ (by omega)).trans (by rw [hpg])) rfl) ?_
       refine any_n (rfl : _ = [_, _, _, _, _, _, _, _, _, _, _, _]) ?_
       refine any_c (_, []) (fun τ => op_mv _ (rfl : _ = AV.v (.int _ _))) ?_
       refine any_n (rfl : _ = [_, _, _, _, _, _, _, _, _, _, _, _, _]) ?_
       refine any_c (_, []) (fun τ => (op_callH inferInstance (by repeat' (first | exact argsLv_nil | refine argsLv_cons ?_ ?_ | exact Lv.v | exact lvI (by omega))) (with_spec (pw ((Ps.getD v []).take j)) b hwl (by omega)) rfl rfl)) ?_
       refine any_n (rfl : _ = [_, _, _, _, _, _, _, _, _, _, _, _, _, _]) ?_
       refine any_c (_, []) (fun τ => op_ixR _ _ inferInstance rfl rfl rfl v rfl (by omega) (by exact (Nat.zero_add _).trans (Nat.mul_one _))) ?_
       refine any_n (rfl : _ = [_, _, _, _, _, _, _, _, _, _, _, _, _, _, _]) ?_
       refine any_end ⟨rfl, ?_⟩
       refine DL_c (op_stR _ _ inferInstance rfl rfl rfl rfl rfl (by simp; omega) (ul_put _ _ _ (by omega))) ?_
       refine DL_nil (hK24 _ ?_)
       clear hK24; try clear K24
       refine D_le (σ' := mkStI 135 [(4, _), (5, _), (6, _), (7, _), (10, _), (27, _), (28, _), (29, _), (34, _), (35, _), (36, _)] [((24, 0), _), ((26, 0), _), ((6, 0), _), ((22, 0), _)] [] []) (by
        refine Le.mkJ [] [] rfl ?_ ?_ trivial trivial ?_
        ·exact ⟨(iV rfl), (iP rfl), (iR rfl), (iV rfl), (iV rfl), (iS rfl), (iV rfl), (iV rfl), (by exact iS rfl), (iV rfl), (iV rfl), trivial⟩
        ·exact ⟨(obE rfl rfl rfl), (obE rfl rfl rfl), (obE rfl rfl rfl), (obE rfl rfl rfl), trivial⟩
        ·kernel_rfl) ?_
       refine D_region ?_
       refine DL_c (mvR rfl) ?_
       refine DL_c (mvI rfl) ?_
       refine DL_c (mvI rfl) ?_
       refine DL_c (op_build _ inferInstance rfl (by exact (rfl : _ = some [_, _]))) ?_
       refine DL_c (op_bsF _ _ inferInstance rfl (by rfl) (by simp <;> rfl) (by decide) rfl) ?_
       refine DL_c (op_ap (78, 0) _ _ inferInstance rfl rfl (by (simp only [isl_len, bsl_len, psl_len, mrows_len, nsl_len, ws_len, List.length_map, ul_len, pwL_len, asts_len, psl_len]; omega)) (by (refine .sl ?_; (simp [isl]; done))) (by omega) rfl (rfl) (rfl)) ?_
       refine DL_c (asR rfl) ?_
       refine DL_nil (hK17 _ ?_)
       clear hK17; try clear K17
       refine D_region ?_
       refine DL_c (op_add _ _ rfl rfl (i64w (by omega))) ?_
       refine DL_c (mvI rfl) ?_
       refine DL_nil ?_
       refine ⟨j + 1, ?_, ?_, ?_⟩
       ·exact ⟨by omega, by rw [take1 0 (by omega)]; exact okp_snoc hoj (by omega) (by omega) hc57⟩
       ·skip
        refine Le.mkJ [((6, 0), (78, 0))] [] rfl ?_ ?_ trivial trivial ?_
        ·exact ⟨(by repeat' (exact Lv.v)), (lvPr (id := (26, 0)) rfl), (by repeat' (exact Lv.v)), (by repeat' (exact Lv.sl)), (by repeat' (exact Lv.v)), (by repeat' (exact Lv.v)), (by repeat' (exact Lv.sl)), (by repeat' (exact Lv.v)), (lvI (by rfl)), (lvRr rfl (by ((rw [edg_succ (by omega), List.length_append]; rfl)))), trivial⟩
        ·exact ⟨(obR rfl rfl rfl rfl), (obB rfl rfl rfl rfl (by repeat' (first | exact lvRr (id := (24, 0)) rfl rfl | exact lvRr (id := (22, 0)) rfl rfl | exact lv_nil | refine lv_cons ?_ ?_))), (obR rfl rfl rfl (by ((rw [edg_succ (by omega), ← psl_append]; rfl)))), (obR rfl rfl rfl (by rw [pwL_succ (by omega) hbe])), trivial⟩
        ·kernel_rfl
       ·omega
   ·skip
    have hjl : j = (Ps.getD v []).length := by omega
    have hokv : OkP n (Ps.getD v []) := by
     have := hoj
     rw [hjl, List.take_length] at this
     exact this
    refine D_exit ?_
    refine id (hK12 _ ?_)
    clear hK12; try clear K12
    refine D_region ?_
    refine DL_c (op_add _ _ rfl rfl (i64w (by omega))) ?_
    refine DL_c (mvI rfl) ?_
    refine DL_nil ?_
    refine ⟨v + 1, ?_, ?_, ?_⟩
    ·exact ⟨by omega, fun u hu => by
      by_cases h : u < v
      ·exact hok u h
      ·have : u = v := by omega
       subst this; exact hokv⟩
    ·skip
     refine Le.mkJ [] [] rfl ?_ ?_ trivial trivial ?_
     ·exact ⟨(iV rfl), (iP rfl), (iS rfl), (iV rfl), (lvI (by rfl)), (lvRr rfl (by rw [hjl, edg_next])), trivial⟩
     ·exact ⟨(obE rfl rfl rfl), (obE rfl rfl rfl), (obR rfl rfl rfl (by rw [hjl, edg_next])), (obR rfl rfl rfl (by rw [hjl, pwL_next])), trivial⟩
     ·kernel_rfl
    ·omega
  ·skip
   obtain rfl : v = n := by omega
   have hV : Valid Ps := fun u hu => by rw [hPs] at hu ⊢; exact hok u hu
   have hE : inE v (edg Ps v 0) = true := hPs ▸ edg_in hV
   have hel := hedl v 0
   have hT := topo_spec v (by omega) _ (edg Ps v 0) rfl (by omega) hE fun a ha => ⟨hS hV (by omega) a ha, nxt_edg_nodup (fun u hu => (hok u hu).1) a⟩
   have hse := nxS_se hE
   have hpsl : (psl (edg Ps v 0)).length = (edg Ps v 0).length * 2 := by rw [psl_len]; omega
   have hTA : (kahn v (nxS v (edg Ps v 0)) v []).length < v → Spec Try.prog 54 (inSt [.v (.int .i64 (v : Int)), .sl (edg Ps v 0).length (psl (edg Ps v 0))] []) (outSt (.tup [.v (.slice none 0 0), .v (.bool false)]) []) := fun hkl => by
    rw [show topoR v (nxS v (edg Ps v 0)) = .tup [.v (.slice none 0 0), .v (.bool false)] from if_pos hkl] at hT; exact hT
   have hTB : ¬ (kahn v (nxS v (edg Ps v 0)) v []).length < v → Spec Try.prog 54 (inSt [.v (.int .i64 (v : Int)), .sl (edg Ps v 0).length (psl (edg Ps v 0))] []) (outSt (.tup [.sl v (isl ((kahn v (nxS v (edg Ps v 0)) v []).map fun (x : Nat) => (x : Int))), .v (.bool true)]) []) := fun hkl => by
    rw [show topoR v (nxS v (edg Ps v 0)) = .tup [.sl v (isl ((kahn v (nxS v (edg Ps v 0)) v []).map fun (x : Nat) => (x : Int))), .v (.bool true)] from if_neg hkl] at hT; exact hT
   have hKO := kahn_ko (n := v) (S := nxS v (edg Ps v 0)) v [] (KO.nil v _)
   have hKL := nodup_le v _ hKO.nd hKO.lt
   have hpE := fun (u : Nat) (hu : u < v) (p : Nat) => hPs ▸ parE_mem hV (by omega) (hPs ▸ hu) p
   refine D_exit ?_
   refine id (hK8 _ ?_)
   clear hK8; try clear K8
   refine D_seq fun K25 hK25 => ?_
   rcases Classical.em ((kahn v (nxS v (edg Ps v 0)) v []).length < v) with hkl | hkl
   ·skip
    refine D_le (Le.frzS (ys := psl (edg Ps v 0)) 6 rfl rfl rfl (by rw [List.drop_zero]; exact List.take_of_length_le (by omega)) (by omega)) ?_
    refine D_region ?_
    refine DL_c (mvI rfl) ?_
    refine DL_c (mvS rfl) ?_
    refine DL_c (op_callH inferInstance (by repeat' (first | exact argsLv_nil | refine argsLv_cons ?_ ?_ | exact Lv.v | exact Lv.sl)) (hTA hkl) rfl rfl) ?_
    refine DL_c (op_mv _ (rfl : _ = AV.tup _)) ?_
    refine DL_c (op_ext _ rfl (rfl : _ = some (AV.v (.slice _ _ _)))) ?_
    refine DL_c (op_ext _ rfl (rfl : _ = some (AV.v (.bool _)))) ?_
    refine DL_c (op_as _ (rfl : _ = AV.v (.slice _ _ _))) ?_
    refine DL_c (asB rfl) ?_
    refine DL_nil (hK25 _ ?_)
    clear hK25; try clear K25
    refine D_seq fun K26 hK26 => ?_
    refine D_seq fun K27 hK27 => ?_
    refine D_region ?_
    refine DL_c (mvB rfl) ?_
    refine DL_c (op_not _ rfl rfl) ?_
    refine DL_nil (hK27 _ ?_)
    clear hK27; try clear K27
    refine D_cT rfl rfl ?_
    refine D_seq fun K28 hK28 => ?_
    refine D_region ?_
    refine DL_c (op_as _ (rfl : _ = AV.v _)) ?_
    refine DL_c (asI rfl) ?_
    refine DL_nil (hK28 _ ?_)
    clear hK28; try clear K28
    refine D_ret ?_
    rw [newV_cyc (by omega) hV (by rw [hPs]; exact topo_cyc hse hkl)]
    exact ret2 (.inr rfl) rfl (.tmp (rfl : _ = AV.v _)) (.tmp (rfl : _ = AV.v _)) (Le.out [] [] (.tup rfl (lv_cons .v (lv_cons .v lv_nil))) rfl rfl rfl trivial trivial)
   ·skip
    refine D_le (Le.frzS (ys := psl (edg Ps v 0)) 6 rfl rfl rfl (by rw [List.drop_zero]; exact List.take_of_length_le (by omega)) (by omega)) ?_
    refine D_region ?_
    refine DL_c (mvI rfl) ?_
    refine DL_c (mvS rfl) ?_
    refine DL_c (op_callH inferInstance (by repeat' (first | exact argsLv_nil | refine argsLv_cons ?_ ?_ | exact Lv.v | exact Lv.sl)) (hTB hkl) rfl rfl) ?_
    refine DL_c (op_mv _ (rfl : _ = AV.tup _)) ?_
    refine DL_c (op_ext _ rfl (rfl : _ = some (AV.sl _ _))) ?_
    refine DL_c (op_ext _ rfl (rfl : _ = some (AV.v (.bool _)))) ?_
    refine DL_c (asS rfl) ?_
    refine DL_c (asB rfl) ?_
    refine DL_nil (hK25 _ ?_)
    clear hK25; try clear K25
    refine D_seq fun K29 hK29 => ?_
    refine D_seq fun K30 hK30 => ?_
    refine D_region ?_
    refine DL_c (mvB rfl) ?_
    refine DL_c (op_not _ rfl rfl) ?_
    refine DL_nil (hK30 _ ?_)
    clear hK30; try clear K30
    refine D_cF rfl rfl ?_
    refine D_skip (hK29 _ ?_)
    clear hK29; try clear K29
    refine D_seq fun K31 hK31 => ?_
    refine D_seq fun K32 hK32 => ?_
    rcases topo_ok hse hkl with hnc
    ·skip
     have hall := asts_all hse hkl hpE
     generalize hOe : kahn v (nxS v (edg Ps v 0)) v [] = O at hKO hKL hkl hall ⊢
     have hOl : O.length = v := by omega
     have hOc : (O.map fun (x : Nat) => (x : Int)).length = v := by simp [hOl]
     have hprl := pwL_len v Ps v 0
     refine D_region ?_
     refine DL_c (mvS rfl) ?_
     refine DL_c (op_lenS _ inferInstance rfl) ?_
     refine DL_c (mvI rfl) ?_
     refine DL_nil (hK32 _ ?_)
     clear hK32; try clear K32
     refine D_block ?_
     refine D_loopL (α := Nat) (fun k => k ≤ v) 135 [(5, _), (89, _), (90, _)] [((26, 0), _), ((22, 0), _)] (fun k => [(91, .v (.int .i64 (k : Int)))]) (fun k => [((24, 0), .row 125 1 (ul (asts v (parE Ps) (O.take k))))]) [] [] (fun k => v - k) 0 ?_ (by
      refine Le.mkJ [] [] rfl ?_ ?_ trivial trivial ?_
      ·exact ⟨(iP rfl), (iS rfl), (iV rfl), (lvI (by rfl)), trivial⟩
      ·exact ⟨(obE rfl rfl rfl), (obE rfl rfl rfl), (obR rfl rfl rfl (by rw [List.take_zero, asts_nil])), trivial⟩
      ·kernel_rfl) ?_
     ·omega
     intro k hk
     refine D_seq fun K33 hK33 => ?_
     refine D_region ?_
     refine DL_c (op_lss _ _ rfl rfl rfl) ?_
     refine DL_nil (hK33 _ ?_)
     clear hK33; try clear K33
     refine D_seq fun K34 hK34 => ?_
     refine D_splitC rfl (fun hc92 => ?_) (fun hc92 => ?_)
     ·skip
      obtain ⟨a, ha⟩ : ∃ a, a = O.getD k 0 := ⟨_, rfl⟩
      have hca := cast_get (l := O) (k := k)
      rw [← ha] at hca
      have haO : a ∈ O := ha ▸ getD_mem (by omega)
      have han := hKO.lt a haO
      have hoa := hok a han
      have hpa := pwL_getF (n := v) (Ps := Ps) (v := v) (j := 0) han han
      have hwa := pw_ok (by omega) hoa
      have hLa : Spec Try.prog 99 (inSt [.v (.int .u64 ((pw (Ps.getD a []) : Nat) : Int))] []) (outSt (.sl (parE Ps a).length (nsl (parE Ps a))) []) := list_spec _ hwa
      have hpel : (parE Ps a).length ≤ 64 := els_len _
      have hal := asts_len v (parE Ps) (O.take k)
      have hat := asts_lt v (parE Ps) (O.take k) fun x hx => by have := hKO.lt x (List.mem_of_mem_take hx); omega
      have hts : asts v (parE Ps) (O.take (k + 1)) = astp (parE Ps) (asts v (parE Ps) (O.take k)) a := by rw [take1 0 (by omega), ← ha, asts_snoc]
      refine D_skip (hK34 _ ?_)
      clear hK34; try clear K34
      refine D_seq fun K35 hK35 => ?_
      refine D_block ?_
      refine D_seq fun K36 hK36 => ?_
      refine D_region ?_
      refine DL_c (op_ixS _ _ inferInstance rfl rfl _ rfl (by omega) (by (simp only [isl_len, bsl_len, psl_len, mrows_len, nsl_len, ws_len, List.length_map, ul_len, pwL_len, asts_len, psl_len]; omega)) (by exact Nat.mul_one _)) ?_
      refine DL_c (op_ldF _ inferInstance rfl (by exact (isl_get _ _ (by omega)).trans (by rw [hca])) rfl) ?_
      refine DL_c (asI rfl) ?_
      refine DL_nil (hK36 _ ?_)
      clear hK36; try clear K36
      refine D_seq fun K37 hK37 => ?_
      refine D_le (σ' := mkStI 135 [(5, _), (14, _), (89, _), (90, _), (91, _)] [((26, 0), _), ((22, 0), _), ((24, 0), _)] [] []) (by
       refine Le.mkJ [] [] rfl ?_ ?_ trivial trivial ?_
       ·exact ⟨(iP rfl), (iV rfl), (iS rfl), (iV rfl), (iV rfl), trivial⟩
       ·exact ⟨(obE rfl rfl rfl), (obE rfl rfl rfl), (obE rfl rfl rfl), trivial⟩
       ·kernel_rfl) ?_
      refine D_anyL 8 [95, 96, 97, 98, 99, 100, 101, 102] [] (by kernel_rfl) (by kernel_rfl) rfl (nodupO_iff rfl) (rfl : _ = [_, _, _, _, _, _, _, _]) (rfl : _ = [_]) ?_
      refine any_c (_, []) (fun τ => op_mv _ (rfl : _ = AV.ptr _ _)) ?_
      refine any_n (rfl : _ = [_]) ?_
      refine any_c (_, []) (fun τ => op_nilp _ rfl rfl) ?_
      refine any_n (rfl : _ = [_, _]) ?_
      refine any_c (_, []) (fun τ => op_fldP _ inferInstance rfl rfl rfl) ?_
      refine any_n (rfl : _ = [_, _, _]) ?_
      refine any_c (_, []) (fun τ => op_ldB _ inferInstance rfl rfl (rfl : _ = some (AV.ref _ _ _))) ?_
      refine any_n (rfl : _ = [_, _, _, _]) ?_
      refine any_c (_, []) (fun τ => op_mv _ (rfl : _ = AV.v (.int _ _))) ?_
      refine any_n (rfl : _ = [_, _, _, _, _]) ?_
      refine any_c (_, []) (fun τ => op_mv _ (rfl : _ = AV.v (.int _ _))) ?_
      refine any_n (rfl : _ = [_, _, _, _, _, _]) ?_
      refine any_c (_, []) (fun τ => (op_callH inferInstance (by repeat' (first | exact argsLv_nil | refine argsLv_cons ?_ ?_ | exact Lv.v)) (with_spec 0 a (by omega) (by omega)) rfl rfl)) ?_
      refine any_n (rfl : _ = [_, _, _, _, _, _, _]) ?_
      refine any_c (_, []) (fun τ => op_ixR _ _ inferInstance rfl rfl rfl a rfl (by omega) (by exact (Nat.zero_add _).trans (Nat.mul_one _))) ?_
      refine any_n (rfl : _ = [_, _, _, _, _, _, _, _]) ?_
      refine any_end ⟨rfl, ?_⟩
      refine DL_c (op_stR _ _ inferInstance rfl rfl rfl rfl rfl (by simp; omega) (ul_put _ _ _ (by omega))) ?_
      refine DL_nil (hK37 _ ?_)
      clear hK37; try clear K37
      refine D_seq fun K38 hK38 => ?_
      refine D_region ?_
      refine DL_c (op_mv _ (rfl : _ = AV.ptr _ _)) ?_
      refine DL_c (op_nilp _ rfl rfl) ?_
      refine DL_c (op_fldP _ inferInstance rfl rfl rfl) ?_
      refine DL_c (op_ldB _ inferInstance rfl rfl (rfl : _ = some (AV.ref _ _ _))) ?_
      refine DL_c (mvI rfl) ?_
      refine DL_c (op_ixR _ _ inferInstance rfl rfl rfl a rfl (by omega) (by exact (Nat.zero_add _).trans (Nat.mul_one _))) ?_
      refine DL_c (op_ldR _ inferInstance rfl rfl (by exact (ul_get _ _ (by omega)).trans (by rw [hpa])) rfl) ?_
      refine DL_c (op_callH inferInstance (by repeat' (first | exact argsLv_nil | refine argsLv_cons ?_ ?_ | exact Lv.v)) (hLa) rfl rfl) ?_
      refine DL_c (op_lenS _ inferInstance rfl) ?_
      refine DL_c (mvI rfl) ?_
      refine DL_nil (hK38 _ ?_)
      clear hK38; try clear K38
      refine D_block ?_
      refine D_loopL (α := Nat) (fun j => j ≤ (parE Ps a).length) 135 [(5, _), (14, _), (89, _), (90, _), (91, _), (110, _), (111, _)] [((26, 0), _), ((22, 0), _)] (fun j => [(112, .v (.int .i64 (j : Int)))]) (fun j => [((24, 0), .row 125 1 (ul ((asts v (parE Ps) (O.take k)).set a (aw (asts v (parE Ps) (O.take k)) a (parE Ps a) j))))]) [] [] (fun j => (parE Ps a).length - j) 0 ?_ (by
       refine Le.mkJ [] [] rfl ?_ ?_ trivial trivial ?_
       ·exact ⟨(iP rfl), (iV rfl), (iS rfl), (iV rfl), (iV rfl), (iS rfl), (iV rfl), (lvI (by rfl)), trivial⟩
       ·exact ⟨(obE rfl rfl rfl), (obE rfl rfl rfl), (obR rfl rfl rfl (by rw [aw_zero, Nat.zero_or])), trivial⟩
       ·kernel_rfl) ?_
      ·omega
      intro j hj
      refine D_seq fun K39 hK39 => ?_
      refine D_region ?_
      refine DL_c (op_lss _ _ rfl rfl rfl) ?_
      refine DL_nil (hK39 _ ?_)
      clear hK39; try clear K39
      refine D_seq fun K40 hK40 => ?_
      refine D_splitC rfl (fun hc113 => ?_) (fun hc113 => ?_)
      ·skip
       obtain ⟨p, hp⟩ : ∃ p, p = (parE Ps a).getD j 0 := ⟨_, rfl⟩
       have hpm : p ∈ parE Ps a := hp ▸ getD_mem (by omega)
       have hpe := (hpE a han p).1 hpm
       have hpn := (Clo.lt hE (.one hpe)).1
       have hpne : p ≠ a := fun e => hnc ⟨a, han, .one (e ▸ hpe)⟩
       have haw := aw_lt hat (show a < 64 by omega) (parE Ps a) j
       have has := aw_succ (s := asts v (parE Ps) (O.take k)) (v := a) (l := parE Ps a) (j := j) (by omega)
       rw [← hp] at has
       refine D_skip (hK40 _ ?_)
       clear hK40; try clear K40
       refine D_seq fun K41 hK41 => ?_
       refine D_block ?_
       refine D_seq fun K42 hK42 => ?_
       refine D_region ?_
       refine DL_c (op_ixS _ _ inferInstance rfl rfl _ rfl (by omega) (by (simp only [isl_len, bsl_len, psl_len, mrows_len, nsl_len, ws_len, List.length_map, ul_len, pwL_len, asts_len, psl_len]; omega)) (by exact Nat.mul_one _)) ?_
       refine DL_c (op_ldF _ inferInstance rfl (by exact (nsl_get _ _ (by omega)).trans (by rw [← hp])) rfl) ?_
       refine DL_c (asI rfl) ?_
       refine DL_nil (hK42 _ ?_)
       clear hK42; try clear K42
       refine D_le (σ' := mkStI 135 [(5, _), (14, _), (16, _), (89, _), (90, _), (91, _), (110, _), (111, _), (112, _)] [((26, 0), _), ((22, 0), _), ((24, 0), _)] [] []) (by
        refine Le.mkJ [] [] rfl ?_ ?_ trivial trivial ?_
        ·exact ⟨(iP rfl), (iV rfl), (iV rfl), (iS rfl), (iV rfl), (iV rfl), (iS rfl), (iV rfl), (iV rfl), trivial⟩
        ·exact ⟨(obE rfl rfl rfl), (obE rfl rfl rfl), (obE rfl rfl rfl), trivial⟩
        ·kernel_rfl) ?_
       refine D_anyL 16 [116, 117, 118, 119, 120, 121, 122, 123, 124, 125, 126, 127, 128, 129, 130, 131] [] (by kernel_rfl) (by kernel_rfl) rfl (nodupO_iff rfl) (rfl : _ = [_, _, _, _, _, _, _, _, _, _, _, _, _, _, _, _]) (rfl : _ = [_]) ?_
       refine any_c (_, []) (fun τ => op_mv _ (rfl : _ = AV.ptr _ _)) ?_
       refine any_n (rfl : _ = [_]) ?_
       refine any_c (_, []) (fun τ => op_nilp _ rfl rfl) ?_
       refine any_n (rfl : _ = [_, _]) ?_
       refine any_c (_, []) (fun τ => op_fldP _ inferInstance rfl rfl rfl) ?_
       refine any_n (rfl : _ = [_, _, _]) ?_
       refine any_c (_, []) (fun τ => op_ldB _ inferInstance rfl rfl (rfl : _ = some (AV.ref _ _ _))) ?_
       refine any_n (rfl : _ = [_, _, _, _]) ?_
       refine any_c (_, []) (fun τ => op_mv _ (rfl : _ = AV.v (.int _ _))) ?_
       refine any_n (rfl : _ = [_, _, _, _, _]) ?_
       refine any_c (_, []) (fun τ => op_ixR _ _ inferInstance rfl rfl rfl a rfl (by omega) (by exact (Nat.zero_add _).trans (Nat.mul_one _))) ?_
       refine any_n (rfl : _ = [_, _, _, _, _, _]) ?_
       refine any_c (_, []) (fun τ => op_ldR _ inferInstance rfl rfl (by exact ul_get_set _ _ _ (by omega)) rfl) ?_
       refine any_n (rfl : _ = [_, _, _, _, _, _, _]) ?_
       refine any_c (_, []) (fun τ => op_mv _ (rfl : _ = AV.ptr _ _)) ?_
       refine any_n (rfl : _ = [_, _, _, _, _, _, _, _]) ?_
       refine any_c (_, []) (fun τ => op_nilp _ rfl rfl) ?_
       refine any_n (rfl : _ = [_, _, _, _, _, _, _, _, _]) ?_
       refine any_c (_, []) (fun τ => op_fldP _ inferInstance rfl rfl rfl) ?_
       refine any_n (rfl : _ = [_, _, _, _, _, _, _, _, _, _]) ?_
       refine any_c (_, []) (fun τ => op_ldB _ inferInstance rfl rfl (rfl : _ = some (AV.ref _ _ _))) ?_
       refine any_n (rfl : _ = [_, _, _, _, _, _, _, _, _, _, _]) ?_
       refine any_c (_, []) (fun τ => op_mv _ (rfl : _ = AV.v (.int _ _))) ?_
       refine any_n (rfl : _ = [_, _, _, _, _, _, _, _, _, _, _, _]) ?_
       refine any_c (_, []) (fun τ => op_ixR _ _ inferInstance rfl rfl rfl p rfl (by omega) (by exact (Nat.zero_add _).trans (Nat.mul_one _))) ?_
       refine any_n (rfl : _ = [_, _, _, _, _, _, _, _, _, _, _, _, _]) ?_
       refine any_c (_, []) (fun τ => op_ldR _ inferInstance rfl rfl (by exact ul_get_other _ _ _ _ (by omega) hpne) rfl) ?_
       refine any_n (rfl : _ = [_, _, _, _, _, _, _, _, _, _, _, _, _, _]) ?_
       refine any_c (_, []) (fun τ => op_or _ _ rfl rfl (u64_or _ _ haw (hat p))) ?_
       refine any_n (rfl : _ = [_, _, _, _, _, _, _, _, _, _, _, _, _, _, _]) ?_
       refine any_c (_, []) (fun τ => op_ixR _ _ inferInstance rfl rfl rfl a rfl (by omega) (by exact (Nat.zero_add _).trans (Nat.mul_one _))) ?_
       refine any_n (rfl : _ = [_, _, _, _, _, _, _, _, _, _, _, _, _, _, _, _]) ?_
       refine any_end ⟨rfl, ?_⟩
       refine DL_c (op_stR _ _ inferInstance rfl rfl rfl rfl rfl (by simp; omega) (ul_put _ _ _ (by simp; omega))) ?_
       refine DL_nil (hK41 _ ?_)
       clear hK41; try clear K41
       refine D_le (σ' := mkStI 135 [(5, _), (14, _), (89, _), (90, _), (91, _), (110, _), (111, _), (112, _)] [((26, 0), _), ((22, 0), _), ((24, 0), _)] [] []) (by
        refine Le.mkJ [] [] rfl ?_ ?_ trivial trivial ?_
        ·exact ⟨(iP rfl), (iV rfl), (iS rfl), (iV rfl), (iV rfl), (iS rfl), (iV rfl), (iV rfl), trivial⟩
        ·exact ⟨(obE rfl rfl rfl), (obE rfl rfl rfl), (obE rfl rfl rfl), trivial⟩
        ·kernel_rfl) ?_
       refine D_region ?_
       refine DL_c (op_add _ _ rfl rfl (i64w (by omega))) ?_
       refine DL_c (mvI rfl) ?_
       refine DL_nil ?_
       refine ⟨j + 1, ?_, ?_, ?_⟩
       ·omega
       ·skip
        refine Le.mkJ [] [] rfl ?_ ?_ trivial trivial ?_
        ·exact ⟨(iP rfl), (iV rfl), (iS rfl), (iV rfl), (iV rfl), (iS rfl), (iV rfl), (lvI (by rfl)), trivial⟩
        ·exact ⟨(obE rfl rfl rfl), (obE rfl rfl rfl), (obR rfl rfl rfl (by rw [List.set_set, has])), trivial⟩
        ·kernel_rfl
       ·omega
      ·skip
       have hjl : j = (parE Ps a).length := by omega
       refine D_exit ?_
       refine id (hK35 _ ?_)
       clear hK35; try clear K35
       refine D_region ?_
       refine DL_c (op_add _ _ rfl rfl (i64w (by omega))) ?_
       refine DL_c (mvI rfl) ?_
       refine DL_nil ?_
       refine ⟨k + 1, ?_, ?_, ?_⟩
       ·omega
       ·skip
        refine Le.mkJ [] [] rfl ?_ ?_ trivial trivial ?_
        ·exact ⟨(iP rfl), (iS rfl), (iV rfl), (lvI (by rfl)), trivial⟩
        ·exact ⟨(obE rfl rfl rfl), (obE rfl rfl rfl), (obR rfl rfl rfl (by rw [hts, astp, hjl])), trivial⟩
        ·kernel_rfl
       ·omega
     ·skip
      obtain rfl : k = v := by omega
      have hfin : asts k (parE Ps) (O.take k) = ancW k (edg Ps k 0) := by rw [List.take_of_length_le (by omega)]; exact hall
      have hpf : pwL k Ps k 0 = parW Ps := by have := pwL_full Ps; rw [hPs] at this; exact this
      have hal := asts_len k (parE Ps) (O.take k)
      refine D_exit ?_
      refine id (hK31 _ ?_)
      clear hK31; try clear K31
      refine D_seq fun K43 hK43 => ?_
      refine D_le (Le.mkJ (n := 135) (slots := [(5, .ptr (26, 0) 0)]) (obs := [((26, 0), .box 123 [.sl k (ul (parW Ps)), .sl k (ul (ancW k (edg Ps k 0)))])]) (I := []) (Pn := []) [] [(22, 0), (24, 0)] rfl ⟨lvPr rfl, trivial⟩ ⟨obB rfl rfl rfl rfl (lv_cons (frz0 rfl rfl (by simp) (by rw [hpf])) (lv_cons (frz0 rfl rfl (by simp) (by rw [hfin])) lv_nil)), trivial⟩ ⟨rfl, rfl, trivial⟩ trivial (by kernel_rfl)) ?_
      refine D_region ?_
      refine DL_c (op_mv _ (rfl : _ = AV.ptr _ _)) ?_
      refine DL_c (op_as _ (rfl : _ = AV.ptr _ _)) ?_
      refine DL_c (asI rfl) ?_
      refine DL_nil (hK43 _ ?_)
      clear hK43; try clear K43
      refine D_ret ?_
      rw [newV_ok (by omega) hV (by rw [hPs]; exact hnc), hPs]
      exact ret2 (.inr rfl) rfl (.tmp (rfl : _ = AV.ptr _ _)) (.tmp (rfl : _ = AV.v _)) (Le.out [] [(26, 0)] (.tup rfl (lv_cons (.frzP rfl rfl rfl) (lv_cons .v lv_nil))) rfl rfl rfl ⟨rfl, trivial⟩ trivial)
end Go.Proofs.Ytkbkmngbenohkaa

namespace Go.Proofs.Ytkbkmngbenohkaa
open Go.RowKit

theorem insS_at {x : Int} : ∀ {L : List Int} {k : Nat}, k ≤ L.length → (∀ y ∈ L.take k, y < x) → (k = L.length ∨ ¬ L.getD k 0 < x) → insS L x = L.take k ++ x :: L.drop k
 | [], k, hk, _, _ => by
  have : k = 0 := by simpa using hk
  subst this; rfl
 | y :: L, 0, _, _, h => by
  have hy : ¬ y < x := by
   rcases h with h | h
   ·simp at h
   ·simpa using h
  simp [insS, hy]
 | y :: L, k + 1, hk, h1, h2 => by
  have hy : y < x := h1 y (by simp)
  have e : insS (y :: L) x = y :: insS L x := by simp [insS, hy]
  rw [e, insS_at (L := L) (k := k) (by simpa using hk) (fun z hz => h1 z (by simp [hz])) (by
   rcases h2 with h | h
   ·exact .inl (by simpa using h)
   ·exact .inr (by simpa using h))]
  rfl
theorem ssrt_len (l : List Int) : (ssrt l).length = l.length := by rw [ssrt_srt]; exact (srt_perm l).length_eq
theorem ssrt_snoc (l : List Int) (x : Int) : ssrt (l ++ [x]) = insS (ssrt l) x := by simp [ssrt, List.foldl_append]
theorem sorted_row {L : List Int} {k i : Nat} (x : Int) (hL : L.length = i) (hk : k ≤ i) : ((isl L).drop 0).take (k * 1) ++ [PV.v (.int .i64 x)] ++ ((isl L).drop k).take ((i - k) * 1) = isl (L.take k ++ x :: L.drop k) := by
 rw [List.drop_zero, Nat.mul_one, Nat.mul_one, isl_take, isl_drop, isl_take, List.take_of_length_le (l := L.drop k) (by simp; omega)]
 simp [isl]
theorem sorted_spec (m : Nat) (l : List Int) (hm : l.length = m) (h1 : m ≤ 1000000) :
  Spec Try.prog 67 (inSt [.sl m (isl l)] []) (outSt (.sl m (isl (ssrt l))) []) := by
 refine Spec.ofN Try.func67 rfl Try.ntmps67 rfl ?_
 refine D_seq fun K1 hK1 => ?_
 refine D_region ?_
 refine DL_c (op_as _ (rfl : _ = AV.v (.slice _ _ _))) ?_
 refine DL_nil (hK1 _ ?_)
 clear hK1; try clear K1
 refine D_seq fun K2 hK2 => ?_
 refine D_region ?_
 refine DL_c (op_asN (3, 0) _ 3 1 rfl rfl) ?_
 refine DL_nil (hK2 _ ?_)
 clear hK2; try clear K2
 refine D_seq fun K3 hK3 => ?_
 refine D_seq fun K4 hK4 => ?_
 refine D_region ?_
 refine DL_c (asI rfl) ?_
 refine DL_nil (hK4 _ ?_)
 clear hK4; try clear K4
 refine D_block ?_
 refine D_loopL (α := Nat) (fun i => i ≤ m) 48 [(0, _)] [] (fun i => [(4, .v (.int .i64 (i : Int))), (3, .ref (3, 0) 0 i)]) (fun i => [((3, 0), .row 3 1 (isl (ssrt (l.take i))))]) [] [] (fun i => m - i) 0 ?_ (by
  refine Le.mkJ [] [] rfl ?_ ?_ trivial trivial ?_
  ·exact ⟨(iS rfl), (lvI (by rfl)), (lvRr rfl (by rfl)), trivial⟩
  ·exact ⟨(obR rfl rfl rfl (by rfl)), trivial⟩
  ·kernel_rfl) ?_
 ·omega
 intro i hi
 have hLl : (ssrt (l.take i)).length = i := by rw [ssrt_len, List.length_take]; omega
 refine D_seq fun K5 hK5 => ?_
 refine D_seq fun K6 hK6 => ?_
 refine D_region ?_
 refine DL_c (mvI rfl) ?_
 refine DL_c (mvS rfl) ?_
 refine DL_c (op_lenS _ inferInstance rfl) ?_
 refine DL_c (op_lss _ _ rfl rfl rfl) ?_
 refine DL_nil (hK6 _ ?_)
 clear hK6; try clear K6
 refine D_splitC rfl (fun hc10 => ?_) (fun hc10 => ?_)
 ·skip
  have hns : ssrt (l.take (i + 1)) = insS (ssrt (l.take i)) (l.getD i 0) := by rw [take1 0 (by omega), ssrt_snoc]
  generalize ssrt (l.take i) = L at hLl hns ⊢
  refine D_skip (hK5 _ ?_)
  clear hK5; try clear K5
  refine D_seq fun K7 hK7 => ?_
  refine D_block ?_
  refine D_seq fun K8 hK8 => ?_
  refine D_region ?_
  refine DL_c (asI rfl) ?_
  refine DL_nil (hK8 _ ?_)
  clear hK8; try clear K8
  refine D_seq fun K9 hK9 => ?_
  refine D_block ?_
  refine D_loopL (α := Nat) (fun k => k ≤ i ∧ ∀ y ∈ L.take k, y < l.getD i 0) 48 [(0, _), (3, _), (4, _)] [((3, 0), _)] (fun k => [(5, .v (.int .i64 (k : Int)))]) (fun k => []) [] [] (fun k => i - k) 0 ?_ (by
   refine Le.mkJ [] [] rfl ?_ ?_ trivial trivial ?_
   ·exact ⟨(iS rfl), (iR rfl), (iV rfl), (lvI (by rfl)), trivial⟩
   ·exact ⟨(obE rfl rfl rfl), trivial⟩
   ·kernel_rfl) ?_
  ·exact ⟨by omega, fun y hy => by simp at hy⟩
  intro k hk
  obtain ⟨hk, hlt⟩ := hk
  refine D_seq fun K10 hK10 => ?_
  refine D_seq fun K11 hK11 => ?_
  refine D_anyL 15 [13, 14, 15, 16, 17, 18, 19, 20, 21, 22, 23, 24, 25, 26, 27] [] (by kernel_rfl) (by kernel_rfl) rfl (nodupO_iff rfl) (rfl : _ = [_, _, _, _, _, _, _, _, _, _, _, _, _, _, _]) (rfl : _ = []) ?_
  refine any_c (_, []) (fun τ => op_mv _ (rfl : _ = AV.v (.int _ _))) ?_
  refine any_n (rfl : _ = [_]) ?_
  refine any_c (_, []) (fun τ => op_mv _ (rfl : _ = AV.ref _ _ _)) ?_
  refine any_n (rfl : _ = [_, _]) ?_
  refine any_c (_, []) (fun τ => op_lenR _ inferInstance rfl rfl) ?_
  refine any_n (rfl : _ = [_, _, _]) ?_
  refine any_c (_, []) (fun τ => op_lss _ _ rfl rfl rfl) ?_
  refine any_n (rfl : _ = [_, _, _, _]) ?_
  refine any_c (_, []) (fun τ => op_mv _ (rfl : _ = AV.v (.bool _))) ?_
  refine any_caseC (fun hg17 => ?_) (fun hg17 => ?_)
  ·skip
   refine any_n (rfl : _ = [_, _, _, _, _]) ?_
   refine any_cy (_, []) rfl (fun τ => rfl) (fun τ => op_mv _ (rfl : _ = AV.ref _ _ _)) ?_
   refine any_n (rfl : _ = [_, _, _, _, _, _]) ?_
   refine any_cy (_, []) rfl (fun τ => rfl) (fun τ => op_mv _ (rfl : _ = AV.v (.int _ _))) ?_
   refine any_n (rfl : _ = [_, _, _, _, _, _, _]) ?_
   refine any_cy (_, []) rfl (fun τ => rfl) (fun τ => op_ixR _ _ inferInstance rfl rfl rfl _ rfl (by omega) (by exact (Nat.zero_add _).trans (Nat.mul_one _))) ?_
   refine any_n (rfl : _ = [_, _, _, _, _, _, _, _]) ?_
   refine any_cy (_, []) rfl (fun τ => rfl) (fun τ => op_ldR _ inferInstance rfl rfl (by exact isl_get _ _ (by omega)) rfl) ?_
   refine any_n (rfl : _ = [_, _, _, _, _, _, _, _, _]) ?_
   refine any_cy (_, []) rfl (fun τ => rfl) (fun τ => op_mv _ (rfl : _ = AV.sl _ _)) ?_
   refine any_n (rfl : _ = [_, _, _, _, _, _, _, _, _, _]) ?_
   refine any_cy (_, []) rfl (fun τ => rfl) (fun τ => op_mv _ (rfl : _ = AV.v (.int _ _))) ?_
   refine any_n (rfl : _ = [_, _, _, _, _, _, _, _, _, _, _]) ?_
   refine any_cy (_, []) rfl (fun τ => rfl) (fun τ => op_ixS _ _ inferInstance rfl rfl _ rfl (by omega) (by (simp only [isl_len, bsl_len, psl_len, mrows_len, nsl_len, ws_len, List.length_map, ul_len, psl_len, isl_len]; omega)) (by exact Nat.mul_one _)) ?_
   refine any_n (rfl : _ = [_, _, _, _, _, _, _, _, _, _, _, _]) ?_
   refine any_cy (_, []) rfl (fun τ => rfl) (fun τ => op_ldF _ inferInstance rfl (by exact isl_get _ _ (by omega)) rfl) ?_
   refine any_n (rfl : _ = [_, _, _, _, _, _, _, _, _, _, _, _, _]) ?_
   refine any_cy (_, []) rfl (fun τ => rfl) (fun τ => op_lss _ _ rfl rfl rfl) ?_
   refine any_n (rfl : _ = [_, _, _, _, _, _, _, _, _, _, _, _, _, _]) ?_
   refine any_c (_, []) (fun τ => op_pick _ _ _ rfl (rfl : _ = AV.v (.bool _))) ?_
   refine any_n (rfl : _ = [_, _, _, _, _, _, _, _, _, _, _, _, _, _, _]) ?_
   refine any_end ⟨rfl, ?_⟩
   refine DL_nil (hK11 _ ?_)
   clear hK11; try clear K11
   refine D_splitC rfl (fun hc27 => ?_) (fun hc27 => ?_)
   ·skip
    refine D_skip (hK10 _ ?_)
    clear hK10; try clear K10
    refine D_block ?_
    refine D_le (σ' := mkStI 48 [(0, _), (3, _), (4, _), (5, _)] [((3, 0), _)] [] []) (by
     refine Le.mkJ [] [] rfl ?_ ?_ trivial trivial ?_
     ·exact ⟨(iS rfl), (iR rfl), (iV rfl), (iV rfl), trivial⟩
     ·exact ⟨(obE rfl rfl rfl), trivial⟩
     ·kernel_rfl) ?_
    refine D_region ?_
    refine DL_c (mvI rfl) ?_
    refine DL_c (op_add _ _ rfl rfl (i64w (by omega))) ?_
    refine DL_c (asI rfl) ?_
    refine DL_nil ?_
    refine ⟨k + 1, ?_, ?_, ?_⟩
    ·exact ⟨by omega, fun y hy => by
      rw [take1 0 (by omega)] at hy
      rcases List.mem_append.1 hy with hy | hy
      ·exact hlt y hy
      ·simp at hy; subst hy; assumption⟩
    ·skip
     refine Le.mkJ [] [] rfl ?_ ?_ trivial trivial ?_
     ·exact ⟨(iS rfl), (iR rfl), (iV rfl), (lvI (by rfl)), trivial⟩
     ·exact ⟨(obE rfl rfl rfl), trivial⟩
     ·kernel_rfl
    ·omega
   ·skip
    refine D_exit ?_
    refine id (hK9 _ ?_)
    clear hK9; try clear K9
    refine D_seq fun K12 hK12 => ?_
    refine D_le (σ' := mkStI 48 [(0, _), (3, _), (4, _), (5, _)] [((3, 0), _)] [] []) (by
     refine Le.mkJ [] [] rfl ?_ ?_ trivial trivial ?_
     ·exact ⟨(iS rfl), (iR rfl), (iV rfl), (iV rfl), trivial⟩
     ·exact ⟨(obE rfl rfl rfl), trivial⟩
     ·kernel_rfl) ?_
    refine D_region ?_
    refine DL_c (op_as _ (rfl : _ = AV.v (.slice _ _ _))) ?_
    refine DL_nil (hK12 _ ?_)
    clear hK12; try clear K12
    refine D_seq fun K13 hK13 => ?_
    refine D_region ?_
    refine DL_c (op_mv _ (rfl : _ = AV.v (.slice _ _ _))) ?_
    refine DL_c (mvR rfl) ?_
    refine DL_c (mvI rfl) ?_
    refine DL_c (op_slR _ _ _ inferInstance rfl rfl 0 _ .dflt (.lit rfl rfl) (by omega) (by omega) (by exact (Nat.zero_add _).trans (Nat.mul_one _)) (Nat.sub_zero _)) ?_
    refine DL_c (op_ap0 (34, 0) _ _ inferInstance rfl (by (refine .ref rfl rfl ?_; (simp; omega))) (by omega) rfl) ?_
    refine DL_c (asR rfl) ?_
    refine DL_nil (hK13 _ ?_)
    clear hK13; try clear K13
    refine D_seq fun K14 hK14 => ?_
    refine D_region ?_
    refine DL_c (mvR rfl) ?_
    refine DL_c (mvS rfl) ?_
    refine DL_c (mvI rfl) ?_
    refine DL_c (op_ixS _ _ inferInstance rfl rfl _ rfl (by omega) (by (simp only [isl_len, bsl_len, psl_len, mrows_len, nsl_len, ws_len, List.length_map, ul_len, psl_len, isl_len]; omega)) (by exact Nat.mul_one _)) ?_
    refine DL_c (op_ldF _ inferInstance rfl (by exact isl_get _ _ (by omega)) rfl) ?_
    refine DL_c (op_bsF _ _ inferInstance rfl (by rfl) (by simp <;> rfl) (by decide) rfl) ?_
    refine DL_c (op_ap (41, 0) _ _ inferInstance rfl rfl (by (simp; omega)) (by (refine .sl ?_; (simp [isl]; done))) (by omega) rfl (rfl) (rfl)) ?_
    refine DL_c (asR rfl) ?_
    refine DL_nil (hK14 _ ?_)
    clear hK14; try clear K14
    refine D_le (σ' := mkStI 48 [(0, _), (3, _), (4, _), (5, _), (6, _)] [((3, 0), _), ((41, 0), _)] [] []) (by
     refine Le.mkJ [] [] rfl ?_ ?_ trivial trivial ?_
     ·exact ⟨(iS rfl), (iR rfl), (iV rfl), (iV rfl), (iR rfl), trivial⟩
     ·exact ⟨(obE rfl rfl rfl), (obE rfl rfl rfl), trivial⟩
     ·kernel_rfl) ?_
    refine D_region ?_
    refine DL_c (mvR rfl) ?_
    refine DL_c (mvR rfl) ?_
    refine DL_c (mvI rfl) ?_
    refine DL_c (op_slR _ _ _ inferInstance rfl rfl _ _ (.lit rfl rfl) .dflt (by omega) (by omega) (by exact (Nat.zero_add _).trans (Nat.mul_one _)) rfl) ?_
    refine DL_c (op_ap (46, 0) _ _ inferInstance rfl rfl (by (simp; omega)) (by (refine .ref rfl rfl ?_; (simp; omega))) (by omega) rfl (rfl) (rfl)) ?_
    refine DL_c (asR rfl) ?_
    refine DL_nil (hK7 _ ?_)
    clear hK7; try clear K7
    refine D_region ?_
    refine DL_c (mvI rfl) ?_
    refine DL_c (op_add _ _ rfl rfl (i64w (by omega))) ?_
    refine DL_c (asI rfl) ?_
    refine DL_nil ?_
    refine ⟨i + 1, ?_, ?_, ?_⟩
    ·omega
    ·skip
     refine Le.mkJ [((3, 0), (46, 0))] [] rfl ?_ ?_ trivial trivial ?_
     ·exact ⟨(by repeat' (exact Lv.sl)), (lvI (by rfl)), (lvRr rfl (by omega)), trivial⟩
     ·exact ⟨(obR rfl rfl rfl (by rw [hns, insS_at (k := k) (by omega) hlt (by omega)]; exact (sorted_row _ hLl hk).symm)), trivial⟩
     ·kernel_rfl
    ·omega
  ·skip
   refine any_n (rfl : _ = [_, _, _, _, _]) ?_
   refine any_cn rfl (fun τ => rfl) (by decide) ?_
   refine any_n (rfl : _ = [_, _, _, _, _, _]) ?_
   refine any_cn rfl (fun τ => rfl) (by decide) ?_
   refine any_n (rfl : _ = [_, _, _, _, _, _, _]) ?_
   refine any_cn rfl (fun τ => rfl) (by decide) ?_
   refine any_n (rfl : _ = [_, _, _, _, _, _, _, _]) ?_
   refine any_cn rfl (fun τ => rfl) (by decide) ?_
   refine any_n (rfl : _ = [_, _, _, _, _, _, _, _, _]) ?_
   refine any_cn rfl (fun τ => rfl) (by decide) ?_
   refine any_n (rfl : _ = [_, _, _, _, _, _, _, _, _, _]) ?_
   refine any_cn rfl (fun τ => rfl) (by decide) ?_
   refine any_n (rfl : _ = [_, _, _, _, _, _, _, _, _, _, _]) ?_
   refine any_cn rfl (fun τ => rfl) (by decide) ?_
   refine any_n (rfl : _ = [_, _, _, _, _, _, _, _, _, _, _, _]) ?_
   refine any_cn rfl (fun τ => rfl) (by decide) ?_
   refine any_n (rfl : _ = [_, _, _, _, _, _, _, _, _, _, _, _, _]) ?_
   refine any_cn rfl (fun τ => rfl) (by decide) ?_
   refine any_n (rfl : _ = [_, _, _, _, _, _, _, _, _, _, _, _, _, _]) ?_
   refine any_c (_, []) (fun τ => op_pick _ _ _ rfl (rfl : _ = AV.v (.bool _))) ?_
   refine any_n (rfl : _ = [_, _, _, _, _, _, _, _, _, _, _, _, _, _, _]) ?_
   refine any_end ⟨rfl, ?_⟩
   refine DL_nil (hK11 _ ?_)
   clear hK11; try clear K11
   refine D_cF rfl rfl ?_
   refine D_exit ?_
   refine id (hK9 _ ?_)
   clear hK9; try clear K9
   refine D_seq fun K15 hK15 => ?_
   refine D_le (σ' := mkStI 48 [(0, _), (3, _), (4, _), (5, _)] [((3, 0), _)] [] []) (by
    refine Le.mkJ [] [] rfl ?_ ?_ trivial trivial ?_
    ·exact ⟨(iS rfl), (iR rfl), (iV rfl), (iV rfl), trivial⟩
    ·exact ⟨(obE rfl rfl rfl), trivial⟩
    ·kernel_rfl) ?_
   refine D_region ?_
   refine DL_c (op_as _ (rfl : _ = AV.v (.slice _ _ _))) ?_
   refine DL_nil (hK15 _ ?_)
   clear hK15; try clear K15
   refine D_seq fun K16 hK16 => ?_
   refine D_region ?_
   refine DL_c (op_mv _ (rfl : _ = AV.v (.slice _ _ _))) ?_
   refine DL_c (mvR rfl) ?_
   refine DL_c (mvI rfl) ?_
   refine DL_c (op_slR _ _ _ inferInstance rfl rfl 0 _ .dflt (.lit rfl rfl) (by omega) (by omega) (by exact (Nat.zero_add _).trans (Nat.mul_one _)) (Nat.sub_zero _)) ?_
   refine DL_c (op_ap0 (34, 0) _ _ inferInstance rfl (by (refine .ref rfl rfl ?_; (simp; omega))) (by omega) rfl) ?_
   refine DL_c (asR rfl) ?_
   refine DL_nil (hK16 _ ?_)
   clear hK16; try clear K16
   refine D_seq fun K17 hK17 => ?_
   refine D_region ?_
   refine DL_c (mvR rfl) ?_
   refine DL_c (mvS rfl) ?_
   refine DL_c (mvI rfl) ?_
   refine DL_c (op_ixS _ _ inferInstance rfl rfl _ rfl (by omega) (by (simp only [isl_len, bsl_len, psl_len, mrows_len, nsl_len, ws_len, List.length_map, ul_len, psl_len, isl_len]; omega)) (by exact Nat.mul_one _)) ?_
   refine DL_c (op_ldF _ inferInstance rfl (by exact isl_get _ _ (by omega)) rfl) ?_
   refine DL_c (op_bsF _ _ inferInstance rfl (by rfl) (by simp <;> rfl) (by decide) rfl) ?_
   refine DL_c (op_ap (41, 0) _ _ inferInstance rfl rfl (by (simp; omega)) (by (refine .sl ?_; (simp [isl]; done))) (by omega) rfl (rfl) (rfl)) ?_
   refine DL_c (asR rfl) ?_
   refine DL_nil (hK17 _ ?_)
   clear hK17; try clear K17
   refine D_le (σ' := mkStI 48 [(0, _), (3, _), (4, _), (5, _), (6, _)] [((3, 0), _), ((41, 0), _)] [] []) (by
    refine Le.mkJ [] [] rfl ?_ ?_ trivial trivial ?_
    ·exact ⟨(iS rfl), (iR rfl), (iV rfl), (iV rfl), (iR rfl), trivial⟩
    ·exact ⟨(obE rfl rfl rfl), (obE rfl rfl rfl), trivial⟩
    ·kernel_rfl) ?_
   refine D_region ?_
   refine DL_c (mvR rfl) ?_
   refine DL_c (mvR rfl) ?_
   refine DL_c (mvI rfl) ?_
   refine DL_c (op_slR _ _ _ inferInstance rfl rfl _ _ (.lit rfl rfl) .dflt (by omega) (by omega) (by exact (Nat.zero_add _).trans (Nat.mul_one _)) rfl) ?_
   refine DL_c (op_ap (46, 0) _ _ inferInstance rfl rfl (by (simp; omega)) (by (refine .ref rfl rfl ?_; (simp; omega))) (by omega) rfl (rfl) (rfl)) ?_
   refine DL_c (asR rfl) ?_
   refine DL_nil (hK7 _ ?_)
   clear hK7; try clear K7
   refine D_region ?_
   refine DL_c (mvI rfl) ?_
   refine DL_c (op_add _ _ rfl rfl (i64w (by omega))) ?_
   refine DL_c (asI rfl) ?_
   refine DL_nil ?_
   refine ⟨i + 1, ?_, ?_, ?_⟩
   ·omega
   ·skip
    refine Le.mkJ [((3, 0), (46, 0))] [] rfl ?_ ?_ trivial trivial ?_
    ·exact ⟨(by repeat' (exact Lv.sl)), (lvI (by rfl)), (lvRr rfl (by omega)), trivial⟩
    ·exact ⟨(obR rfl rfl rfl (by rw [hns, insS_at (k := k) (by omega) hlt (by omega)]; exact (sorted_row _ hLl hk).symm)), trivial⟩
    ·kernel_rfl
   ·omega
 ·skip
  obtain rfl : i = m := by omega
  have hlt' : l.take i = l := List.take_of_length_le (by omega)
  refine D_exit ?_
  refine id (hK3 _ ?_)
  clear hK3; try clear K3
  refine D_seq fun K18 hK18 => ?_
  refine D_region ?_
  refine DL_c (mvR rfl) ?_
  refine DL_c (asR rfl) ?_
  refine DL_nil (hK18 _ ?_)
  clear hK18; try clear K18
  refine D_ret ?_
  exact ret1 (.inr rfl) rfl (.tmp (rfl : _ = AV.ref _ _ _)) (Le.out [] [(3, 0)] (frz0 rfl rfl (by rw [isl_len, hLl]; omega) (by rw [hlt'])) rfl rfl rfl ⟨rfl, trivial⟩ trivial)
theorem adds_get {o l : List Int} {i : Nat} (h : i < o.length) : (adds o l).getD i 0 = o.getD i 0 := by
 obtain ⟨t, ht⟩ := adds_pre l o
 rw [ht, List.getD_eq_getElem?_getD, List.getD_eq_getElem?_getD, List.getElem?_append_left h]
theorem adds_len {Ps : List (List Int)} {l o : List Int} {i : Nat} (hV : Valid Ps) (h : AB Ps l i o) {a : Nat} (ha : a < Ps.length) (j : Nat) : (adds o ((Ps.getD a []).take j)).length ≤ Ps.length := by
 refine ints_len (adds_nodup h.nd) fun x hx => ?_
 rcases adds_mem.1 hx with hx | hx
 ·exact h.rng x hx
 ·exact (hV a ha).2 x (List.mem_of_mem_take hx)
theorem above_spec (n : Nat) (Ps : List (List Int)) (hPs : Ps.length = n) (hn1 : n ≤ 1000) (hV : Valid Ps) (hm : ∀ v, (Ps.getD v []).length ≤ 1000) (m : Nat) (l : List Int) (hl : l.length = m) (h1 : m ≤ 1000000) (hok : OkP n l) :
  Spec Try.prog 103 (inSt [.sl n (nrows Ps), .sl m (isl l)] []) (outSt (.sl (abv Ps l).length (isl (abv Ps l))) []) := by
 have hnr : (nrows Ps).length = n := by simp [nrows, hPs]
 refine Spec.ofN Try.func103 rfl Try.ntmps103 rfl ?_
 refine D_seq fun K1 hK1 => ?_
 refine D_region ?_
 refine DL_c (op_as _ (rfl : _ = AV.v (.slice _ _ _))) ?_
 refine DL_nil (hK1 _ ?_)
 clear hK1; try clear K1
 refine D_seq fun K2 hK2 => ?_
 refine D_region ?_
 refine DL_c (op_bs (8, 0) _ _ inferInstance rfl (by rfl) (by simp <;> rfl) (by decide) rfl rfl) ?_
 refine DL_c (mvS rfl) ?_
 refine DL_c (op_ap (10, 0) _ _ inferInstance rfl rfl (by rfl) (by (refine .sl ?_; (simp [isl]; omega))) (by omega) rfl (rfl) (rfl)) ?_
 refine DL_c (asR rfl) ?_
 refine DL_nil (hK2 _ ?_)
 clear hK2; try clear K2
 refine D_seq fun K3 hK3 => ?_
 refine D_seq fun K4 hK4 => ?_
 refine D_region ?_
 refine DL_c (asI rfl) ?_
 refine DL_nil (hK4 _ ?_)
 clear hK4; try clear K4
 refine D_block ?_
 refine D_loopL (α := Nat × List Int) (fun z => AB Ps l z.1 z.2) 56 [(0, _)] [] (fun z => [(6, .v (.int .i64 (z.1 : Int))), (5, .ref (10, 0) 0 z.2.length)]) (fun z => [((10, 0), .row 3 1 (isl z.2))]) [] [] (fun z => n - z.1) (0, l) ?_ (by
  refine Le.mkJ [] [] rfl ?_ ?_ trivial trivial ?_
  ·exact ⟨(iS rfl), (lvI (by rfl)), (lvRr rfl (by (simp; omega))), trivial⟩
  ·exact ⟨(obR rfl rfl rfl (by rfl)), trivial⟩
  ·kernel_rfl) ?_
 ·exact AB.start (hPs ▸ hok)
 intro z hz
 have hzl := hPs ▸ hz.len
 have hzi := hz.hi
 refine D_seq fun K5 hK5 => ?_
 refine D_seq fun K6 hK6 => ?_
 refine D_region ?_
 refine DL_c (mvI rfl) ?_
 refine DL_c (mvR rfl) ?_
 refine DL_c (op_lenR _ inferInstance rfl rfl) ?_
 refine DL_c (op_lss _ _ rfl rfl rfl) ?_
 refine DL_nil (hK6 _ ?_)
 clear hK6; try clear K6
 refine D_splitC rfl (fun hc14 => ?_) (fun hc14 => ?_)
 ·skip
  have hr := hz.rng _ (getD_memI (show z.1 < z.2.length by omega))
  obtain ⟨a, ha⟩ := Int.eq_ofNat_of_zero_le hr.1
  have han : a < n := by omega
  have hsl := fun j => adds_len hV hz (show a < Ps.length by omega) j
  have hml := hm a
  have hst := hz.step hV (show z.1 < z.2.length by omega)
  rw [ha, Int.toNat_natCast] at hst
  refine D_skip (hK5 _ ?_)
  clear hK5; try clear K5
  refine D_seq fun K7 hK7 => ?_
  refine D_block ?_
  refine D_seq fun K8 hK8 => ?_
  refine D_region ?_
  refine DL_c (asI rfl) ?_
  refine DL_nil (hK8 _ ?_)
  clear hK8; try clear K8
  refine D_block ?_
  refine D_loopL (α := Nat) (fun j => j ≤ (Ps.getD a []).length) 56 [(0, _), (6, _)] [] (fun j => [(7, .v (.int .i64 (j : Int))), (5, .ref (10, 0) 0 (adds z.2 ((Ps.getD a []).take j)).length)]) (fun j => [((10, 0), .row 3 1 (isl (adds z.2 ((Ps.getD a []).take j))))]) [] [] (fun j => (Ps.getD a []).length - j) 0 ?_ (by
   refine Le.mkJ [] [] rfl ?_ ?_ trivial trivial ?_
   ·exact ⟨(iS rfl), (iV rfl), (lvI (by rfl)), (lvRr rfl (by rfl)), trivial⟩
   ·exact ⟨(obR rfl rfl rfl (by rfl)), trivial⟩
   ·kernel_rfl) ?_
  ·omega
  intro j hj
  have hslj := hsl j
  have hgj := adds_get (l := (Ps.getD a []).take j) (show z.1 < z.2.length by omega)
  rw [ha] at hgj
  obtain ⟨tl, htl⟩ := adds_pre ((Ps.getD a []).take j) z.2
  have hlj : z.2.length ≤ (adds z.2 ((Ps.getD a []).take j)).length := by rw [htl, List.length_append]; omega
  refine D_seq fun K9 hK9 => ?_
  refine D_seq fun K10 hK10 => ?_
  refine D_region ?_
  refine DL_c (mvI rfl) ?_
  refine DL_c (mvS rfl) ?_
  refine DL_c (mvR rfl) ?_
  refine DL_c (mvI rfl) ?_
  refine DL_c (op_ixR _ _ inferInstance rfl rfl rfl z.1 rfl (by omega) (by exact (Nat.zero_add _).trans (Nat.mul_one _))) ?_
  refine DL_c (op_ldR _ inferInstance rfl rfl (by exact (isl_get _ _ (by omega)).trans (by rw [hgj])) rfl) ?_
  refine DL_c (op_ixS _ _ inferInstance rfl rfl a rfl (by omega) (by omega) (Nat.mul_one _)) ?_
  refine DL_c (op_ldF _ inferInstance rfl (by exact nrows_get _ _ (by omega)) rfl) ?_
  refine DL_c (op_lenS _ inferInstance rfl) ?_
  refine DL_c (op_lss _ _ rfl rfl rfl) ?_
  refine DL_nil (hK10 _ ?_)
  clear hK10; try clear K10
  refine D_splitC rfl (fun hc26 => ?_) (fun hc26 => ?_)
  ·skip
   have hnj : adds z.2 ((Ps.getD a []).take (j + 1)) = add1 (adds z.2 ((Ps.getD a []).take j)) ((Ps.getD a []).getD j 0) := by rw [take1 0 (by omega), adds_snoc]
   refine D_skip (hK9 _ ?_)
   clear hK9; try clear K9
   refine D_seq fun K11 hK11 => ?_
   refine D_block ?_
   refine D_seq fun K12 hK12 => ?_
   refine D_region ?_
   refine DL_c (mvR rfl) ?_
   refine DL_c (mvS rfl) ?_
   refine DL_c (mvR rfl) ?_
   refine DL_c (mvI rfl) ?_
   refine DL_c (op_ixR _ _ inferInstance rfl rfl rfl z.1 rfl (by omega) (by exact (Nat.zero_add _).trans (Nat.mul_one _))) ?_
   refine DL_c (op_ldR _ inferInstance rfl rfl (by exact (isl_get _ _ (by omega)).trans (by rw [hgj])) rfl) ?_
   refine DL_c (op_ixS _ _ inferInstance rfl rfl a rfl (by omega) (by omega) (Nat.mul_one _)) ?_
   refine DL_c (op_ldF _ inferInstance rfl (by exact nrows_get _ _ (by omega)) rfl) ?_
   refine DL_c (mvI rfl) ?_
   refine DL_c (op_ixS _ _ inferInstance rfl rfl _ rfl (by omega) (by (simp only [isl_len, bsl_len, psl_len, mrows_len, nsl_len, ws_len, List.length_map, ul_len, psl_len, isl_len]; omega)) (by exact Nat.mul_one _)) ?_
   refine DL_c (op_ldF _ inferInstance rfl (by exact isl_get _ _ (by omega)) rfl) ?_
   refine DL_c (op_callBH inferInstance (by repeat' (first | exact argsLv_nil | refine argsLv_cons ?_ ?_ | exact Lv.v | (refine frz0 rfl rfl ?_ rfl; (simp; done)))) (has_spec (adds z.2 ((Ps.getD a []).take j)).length (adds z.2 ((Ps.getD a []).take j)) ((Ps.getD a []).getD j 0) rfl (by omega)) rfl) ?_
   refine DL_c (op_not _ rfl rfl) ?_
   refine DL_nil (hK12 _ ?_)
   clear hK12; try clear K12
   refine D_splitC rfl (fun hc41 => ?_) (fun hc41 => ?_)
   ·skip
    have hnj1 : adds z.2 ((Ps.getD a []).take (j + 1)) = adds z.2 ((Ps.getD a []).take j) ++ [(Ps.getD a []).getD j 0] := by rw [hnj, add1, if_neg (by simpa using hc41)]
    refine D_le (σ' := mkStI 56 [(0, _), (5, _), (6, _), (7, _)] [((10, 0), _)] [] []) (by
     refine Le.mkJ [] [] rfl ?_ ?_ trivial trivial ?_
     ·exact ⟨(iS rfl), (iR rfl), (iV rfl), (iV rfl), trivial⟩
     ·exact ⟨(obE rfl rfl rfl), trivial⟩
     ·kernel_rfl) ?_
    refine D_region ?_
    refine DL_c (mvR rfl) ?_
    refine DL_c (mvS rfl) ?_
    refine DL_c (mvR rfl) ?_
    refine DL_c (mvI rfl) ?_
    refine DL_c (op_ixR _ _ inferInstance rfl rfl rfl z.1 rfl (by omega) (by exact (Nat.zero_add _).trans (Nat.mul_one _))) ?_
    refine DL_c (op_ldR _ inferInstance rfl rfl (by exact (isl_get _ _ (by omega)).trans (by rw [hgj])) rfl) ?_
    refine DL_c (op_ixS _ _ inferInstance rfl rfl a rfl (by omega) (by omega) (Nat.mul_one _)) ?_
    refine DL_c (op_ldF _ inferInstance rfl (by exact nrows_get _ _ (by omega)) rfl) ?_
    refine DL_c (mvI rfl) ?_
    refine DL_c (op_ixS _ _ inferInstance rfl rfl _ rfl (by omega) (by (simp only [isl_len, bsl_len, psl_len, mrows_len, nsl_len, ws_len, List.length_map, ul_len, psl_len, isl_len]; omega)) (by exact Nat.mul_one _)) ?_
    refine DL_c (op_ldF _ inferInstance rfl (by exact isl_get _ _ (by omega)) rfl) ?_
    refine DL_c (op_bsF _ _ inferInstance rfl (by rfl) (by simp <;> rfl) (by decide) rfl) ?_
    refine DL_c (op_ap (54, 0) _ _ inferInstance rfl rfl (by (simp only [isl_len, bsl_len, psl_len, mrows_len, nsl_len, ws_len, List.length_map, ul_len, psl_len, isl_len]; omega)) (by (refine .sl ?_; (simp [isl]; done))) (by omega) rfl (rfl) (rfl)) ?_
    refine DL_c (asR rfl) ?_
    refine DL_nil (hK11 _ ?_)
    clear hK11; try clear K11
    refine D_region ?_
    refine DL_c (mvI rfl) ?_
    refine DL_c (op_add _ _ rfl rfl (i64w (by omega))) ?_
    refine DL_c (asI rfl) ?_
    refine DL_nil ?_
    refine ⟨j + 1, ?_, ?_, ?_⟩
    ·omega
    ·skip
     refine Le.mkJ [((10, 0), (54, 0))] [] rfl ?_ ?_ trivial trivial ?_
     ·exact ⟨(by repeat' (exact Lv.sl)), (by repeat' (exact Lv.v)), (lvI (by rfl)), (lvRr rfl (by ((rw [hnj1, List.length_append]; rfl)))), trivial⟩
     ·exact ⟨(obR rfl rfl rfl (by ((rw [hnj1]; simp [isl]; done)))), trivial⟩
     ·kernel_rfl
    ·omega
   ·skip
    have hnj2 : adds z.2 ((Ps.getD a []).take (j + 1)) = adds z.2 ((Ps.getD a []).take j) := by rw [hnj, add1, if_pos (by simpa using hc41)]
    refine D_skip (hK11 _ ?_)
    clear hK11; try clear K11
    refine D_le (σ' := mkStI 56 [(0, _), (5, _), (6, _), (7, _)] [((10, 0), _)] [] []) (by
     refine Le.mkJ [] [] rfl ?_ ?_ trivial trivial ?_
     ·exact ⟨(iS rfl), (iR rfl), (iV rfl), (iV rfl), trivial⟩
     ·exact ⟨(obE rfl rfl rfl), trivial⟩
     ·kernel_rfl) ?_
    refine D_region ?_
    refine DL_c (mvI rfl) ?_
    refine DL_c (op_add _ _ rfl rfl (i64w (by omega))) ?_
    refine DL_c (asI rfl) ?_
    refine DL_nil ?_
    refine ⟨j + 1, ?_, ?_, ?_⟩
    ·omega
    ·skip
     refine Le.mkJ [] [] rfl ?_ ?_ trivial trivial ?_
     ·exact ⟨(iS rfl), (iV rfl), (lvI (by rfl)), (lvRr rfl (by (rw [hnj2]))), trivial⟩
     ·exact ⟨(obR rfl rfl rfl (by (rw [hnj2]))), trivial⟩
     ·kernel_rfl
    ·omega
  ·skip
   have hjl : (Ps.getD a []).take j = Ps.getD a [] := List.take_of_length_le (by omega)
   refine D_exit ?_
   refine id (hK7 _ ?_)
   clear hK7; try clear K7
   refine D_region ?_
   refine DL_c (mvI rfl) ?_
   refine DL_c (op_add _ _ rfl rfl (i64w (by omega))) ?_
   refine DL_c (asI rfl) ?_
   refine DL_nil ?_
   refine ⟨(z.1 + 1, adds z.2 (Ps.getD a [])), ?_, ?_, ?_⟩
   ·exact hst
   ·skip
    refine Le.mkJ [] [] rfl ?_ ?_ trivial trivial ?_
    ·exact ⟨(iS rfl), (lvI (by rfl)), (lvRr rfl (by (rw [hjl]))), trivial⟩
    ·exact ⟨(obR rfl rfl rfl (by (rw [hjl]))), trivial⟩
    ·kernel_rfl
   ·simp only; omega
 ·skip
  have hfin : z.2 = abv Ps l := AB.fin (by have := hz; rw [show z.1 = z.2.length by omega] at this; exact this)
  refine D_exit ?_
  refine id (hK3 _ ?_)
  clear hK3; try clear K3
  refine D_seq fun K13 hK13 => ?_
  refine D_region ?_
  refine DL_c (mvR rfl) ?_
  refine DL_c (asR rfl) ?_
  refine DL_nil (hK13 _ ?_)
  clear hK13; try clear K13
  refine D_ret ?_
  rw [← hfin]
  exact ret1 (.inr rfl) rfl (.tmp (rfl : _ = AV.ref _ _ _)) (Le.out [] [(10, 0)] (frz0 rfl rfl (by rw [isl_len]; omega) rfl) rfl rfl rfl ⟨rfl, trivial⟩ trivial)
end Go.Proofs.Ytkbkmngbenohkaa

namespace Go.Proofs.Ytkbkmngbenohkaa
open Go.RowKit

def rat (Ps : List (List Int)) (v : Int) : List Int := if 0 ≤ v ∧ v < (Ps.length : Int) then ssrt (abv Ps [v]) else []
theorem rat_els {Ps : List (List Int)} (hV : Valid Ps) (h64 : Ps.length ≤ 64) (v : Int) : rat Ps v = (wat Ps.length (ancW Ps.length (edg Ps Ps.length 0)) v).map fun (x : Nat) => (x : Int) := by
 unfold rat wat
 by_cases h : 0 ≤ v ∧ v < (Ps.length : Int)
 ·obtain ⟨a, rfl⟩ := Int.eq_ofNat_of_zero_le h.1
  rw [if_pos h, if_pos h, Int.toNat_natCast, ancW_get (by omega), anc_els hV h64 (by omega)]
 ·rw [if_neg h, if_neg h]; rfl
theorem abv_len {Ps : List (List Int)} (hV : Valid Ps) {l : List Int} (hl : OkP Ps.length l) : (abv Ps l).length ≤ Ps.length := ints_len (abv_ok hV hl).1.1 (abv_ok hV hl).1.2
theorem rancestors_spec (n : Nat) (Ps : List (List Int)) (hPs : Ps.length = n) (hn1 : n ≤ 1000) (hV : Valid Ps) (hm : ∀ v, (Ps.getD v []).length ≤ 1000) (v : Int) :
  Spec Try.prog 66 (inSt [.sl n (nrows Ps), .v (.int .i64 v)] []) (outSt (.sl (rat Ps v).length (isl (rat Ps v))) []) := by
 refine Spec.ofN Try.func66 rfl Try.ntmps66 rfl ?_
 refine D_seq fun K1 hK1 => ?_
 refine D_region ?_
 refine DL_c (op_as _ (rfl : _ = AV.v (.slice _ _ _))) ?_
 refine DL_nil (hK1 _ ?_)
 clear hK1; try clear K1
 refine D_seq fun K2 hK2 => ?_
 refine D_seq fun K3 hK3 => ?_
 refine D_region ?_
 refine DL_c (mvI rfl) ?_
 refine DL_c (op_lss _ _ rfl rfl rfl) ?_
 refine DL_c (mvB rfl) ?_
 refine DL_caseC (fun hg7 => ?_) (fun hg7 => ?_)
 ·skip
  refine DL_cn rfl rfl (by decide) ?_
  refine DL_cn rfl rfl (by decide) ?_
  refine DL_cn rfl rfl (by decide) ?_
  refine DL_cn rfl rfl (by decide) ?_
  refine DL_c (op_pick _ _ _ rfl (rfl : _ = AV.v (.bool _))) ?_
  refine DL_nil (hK3 _ ?_)
  clear hK3; try clear K3
  refine D_cT rfl rfl ?_
  refine D_seq fun K4 hK4 => ?_
  refine D_region ?_
  refine DL_c (op_as _ (rfl : _ = AV.v (.slice _ _ _))) ?_
  refine DL_nil (hK4 _ ?_)
  clear hK4; try clear K4
  refine D_ret ?_
  rw [show rat Ps v = [] from if_neg (by omega)]
  exact ret1 (.inr rfl) rfl (.tmp (rfl : _ = AV.v _)) (Le.out [] [] .nil rfl rfl rfl trivial trivial)
 ·skip
  have hvn := hg7
  refine DL_cy rfl rfl (mvI rfl) ?_
  refine DL_cy rfl rfl (mvS rfl) ?_
  refine DL_cy rfl rfl (op_lenS _ inferInstance rfl) ?_
  refine DL_cy rfl rfl (op_geq _ _ rfl rfl rfl) ?_
  refine DL_c (op_pick _ _ _ rfl (rfl : _ = AV.v (.bool _))) ?_
  refine DL_nil (hK3 _ ?_)
  clear hK3; try clear K3
  refine D_splitC rfl (fun hc12 => ?_) (fun hc12 => ?_)
  ·skip
   refine D_seq fun K5 hK5 => ?_
   refine D_region ?_
   refine DL_c (op_as _ (rfl : _ = AV.v (.slice _ _ _))) ?_
   refine DL_nil (hK5 _ ?_)
   clear hK5; try clear K5
   refine D_ret ?_
   rw [show rat Ps v = [] from if_neg (by omega)]
   exact ret1 (.inr rfl) rfl (.tmp (rfl : _ = AV.v _)) (Le.out [] [] .nil rfl rfl rfl trivial trivial)
  ·skip
   have hal : (abv Ps [v]).length ≤ n := hPs ▸ abv_len hV ⟨by simp, fun p hp => by simp at hp; omega⟩
   refine D_skip (hK2 _ ?_)
   clear hK2; try clear K2
   refine D_seq fun K6 hK6 => ?_
   refine D_region ?_
   refine DL_c (mvS rfl) ?_
   refine DL_c (mvI rfl) ?_
   refine DL_c (op_bsF _ _ inferInstance rfl (by rfl) (by simp <;> rfl) (by decide) rfl) ?_
   refine DL_c (op_callH inferInstance (by repeat' (first | exact argsLv_nil | refine argsLv_cons ?_ ?_ | exact Lv.sl)) (above_spec n Ps hPs hn1 hV hm 1 [v] rfl (by omega) ⟨by simp, fun p hp => by simp at hp; omega⟩) rfl rfl) ?_
   refine DL_c (op_callH inferInstance (by repeat' (first | exact argsLv_nil | refine argsLv_cons ?_ ?_ | exact Lv.sl)) (sorted_spec _ (abv Ps [v]) rfl (by omega)) rfl rfl) ?_
   refine DL_c (asS rfl) ?_
   refine DL_nil (hK6 _ ?_)
   clear hK6; try clear K6
   refine D_ret ?_
   rw [show rat Ps v = ssrt (abv Ps [v]) from if_pos (by omega), ssrt_len]
   exact ret1 (.inr rfl) rfl (.tmp (rfl : _ = AV.sl _ _)) (Le.out [] [] .sl rfl rfl rfl trivial trivial)
end Go.Proofs.Ytkbkmngbenohkaa

namespace Go.Proofs.Ytkbkmngbenohkaa
open Go.RowKit

def prC (v : Nat) (own : List Int) (n : Int) (k : Nat) : Prop := 0 ≤ (v : Int) - 1 - n % 4 ∧ (v : Int) - 1 - n % 4 ∉ own ∧ (k = 0 ∨ n / 4 % 3 = 0)
instance (v : Nat) (own : List Int) (n : Int) (k : Nat) : Decidable (prC v own n k) := by unfold prC; exact inferInstance
def prK (v : Nat) (N : Int) : Nat → List Int × Int
 | 0 => ([], N)
 | k + 1 => (if prC v (prK v N k).1 (prK v N k).2 k then (prK v N k).1 ++ [(v : Int) - 1 - (prK v N k).2 % 4] else (prK v N k).1, (prK v N k).2 / 4 / 3)
theorem prK_yes {v : Nat} {N n : Int} {k : Nat} {own : List Int} (h : prK v N k = (own, n)) (hc : prC v own n k) : prK v N (k + 1) = (own ++ [(v : Int) - 1 - n % 4], n / 4 / 3) := by rw [prK, h, if_pos hc]
theorem prK_no {v : Nat} {N n : Int} {k : Nat} {own : List Int} (h : prK v N k = (own, n)) (hc : ¬ prC v own n k) : prK v N (k + 1) = (own, n / 4 / 3) := by rw [prK, h, if_neg hc]
structure Row4 (v : Nat) (l : List Int) : Prop where
 nd : l.Nodup
 b : ∀ p ∈ l, 0 ≤ p ∧ p < (v : Int) ∧ (v : Int) ≤ p + 4
theorem prK_row (v : Nat) (N : Int) : ∀ k, Row4 v (prK v N k).1 ∧ (prK v N k).1.length ≤ k
 | 0 => ⟨⟨List.nodup_nil, fun _ h => absurd h List.not_mem_nil⟩, Nat.le_refl _⟩
 | k + 1 => by
  obtain ⟨h1, h2⟩ := prK_row v N k
  generalize he : prK v N k = z at *
  by_cases hc : prC v z.1 z.2 k
  ·rw [prK_yes he hc]
   obtain ⟨c1, c2, _⟩ := hc
   refine ⟨⟨?_, fun p hp => ?_⟩, by simp; omega⟩
   ·rw [List.nodup_append]
    exact ⟨h1.nd, by simp, fun x hx y hy => by simp at hy; subst hy; exact fun e => c2 (e ▸ hx)⟩
   ·rcases List.mem_append.1 hp with hp | hp
    ·exact h1.b p hp
    ·simp at hp; omega
  ·rw [prK_no he hc]
   exact ⟨h1, Nat.le_succ_of_le h2⟩
def pr1 (l : List Int) (v : Nat) : List Int := if 0 < v then (prK v (around (l.getD (v - 1) 0) 1000000) 3).1 else []
theorem pr1_row (l : List Int) (v : Nat) : Row4 v (pr1 l v) ∧ (pr1 l v).length ≤ 3 := by
 unfold pr1
 split
 ·exact prK_row _ _ _
 ·exact ⟨⟨List.nodup_nil, fun _ h => absurd h List.not_mem_nil⟩, Nat.zero_le _⟩
def prL (l : List Int) (v : Nat) : List (List Int) := (List.range v).map (pr1 l)
theorem prL_succ (l : List Int) (v : Nat) : prL l (v + 1) = prL l v ++ [pr1 l v] := by simp [prL, List.range_succ]
@[simp] theorem prL_len (l : List Int) (v : Nat) : (prL l v).length = v := by simp [prL]
def prM (l : List Int) : Nat := min 14 (1 + l.length)
def par32 (l : List Int) : List (List Int) := prL l (prM l)
structure Near (Ps : List (List Int)) : Prop where
 n : Ps.length ≤ 14
 r : ∀ v, v < Ps.length → Row4 v (Ps.getD v []) ∧ (Ps.getD v []).length ≤ 3
theorem par32_near (l : List Int) : Near (par32 l) := by
 refine ⟨by simp [par32, prM]; omega, fun v hv => ?_⟩
 have hv' : v < prM l := by simpa [par32] using hv
 have : (par32 l).getD v [] = pr1 l v := by simp [par32, prL, List.getD_eq_getElem?_getD, hv']
 rw [this]; exact pr1_row l v
theorem par32_len (l : List Int) : (par32 l).length = prM l := by simp [par32]
theorem prM_pos (l : List Int) : 1 ≤ prM l ∧ prM l ≤ 14 := by unfold prM; omega
theorem Near.valid {Ps : List (List Int)} (h : Near Ps) : Valid Ps := fun v hv => ⟨(h.r v hv).1.nd, fun p hp => by have := (h.r v hv).1.b p hp; omega⟩
theorem Near.rows {Ps : List (List Int)} (h : Near Ps) (v : Nat) : (Ps.getD v []).length ≤ 3 := by
 by_cases hv : v < Ps.length
 ·exact (h.r v hv).2
 ·rw [List.getD_eq_getElem?_getD, List.getElem?_eq_none (by omega)]; exact Nat.zero_le _
theorem clo_lt {E : Prs} (h : ∀ a b : Nat, ((a : Int), (b : Int)) ∈ E → a < b) {a b : Nat} (hc : Clo E a b) : a < b := by
 induction hc with
 | one he => exact h _ _ he
 | more he _ ih => have := h _ _ he; omega
theorem Near.lt {Ps : List (List Int)} (h : Near Ps) {a b : Nat} (hc : Clo (edg Ps Ps.length 0) a b) : a < b := by
 refine clo_lt (fun a b he => ?_) hc
 obtain ⟨v, hv, h1, h2⟩ := edg_mem.1 he
 have := (h.r v hv).1.b _ h2
 simp only at h1 this
 omega
theorem Near.acyc {Ps : List (List Int)} (h : Near Ps) : ¬ ∃ a, a < Ps.length ∧ Clo (edg Ps Ps.length 0) a a := fun ⟨a, _, hc⟩ => Nat.lt_irrefl _ (h.lt hc)
theorem filter_few {p : Nat → Bool} {a m : Nat} (n : Nat) (h : ∀ v, p v = true → a < v ∧ v ≤ a + m) : ((List.range n).filter p).length ≤ m := by
 have h1 : ((List.range n).filter p).Nodup := List.Pairwise.filter _ List.nodup_range
 have h2 := nodup_le m (((List.range n).filter p).map fun v => v - a - 1) (by
  rw [List.nodup_iff_pairwise_ne, List.pairwise_map]
  refine List.Pairwise.imp_of_mem ?_ (List.nodup_iff_pairwise_ne.1 h1)
  intro x y hx hy hne he
  have := h x (List.mem_filter.1 hx).2
  have := h y (List.mem_filter.1 hy).2
  omega) (by
  intro x hx
  obtain ⟨y, hy, rfl⟩ := List.mem_map.1 hx
  have := h y (List.mem_filter.1 hy).2
  omega)
 simpa using h2
end Go.Proofs.Ytkbkmngbenohkaa

namespace Go.Proofs.Ytkbkmngbenohkaa
open Go.RowKit

@[simp] theorem nrows_len (L : List (List Int)) : (nrows L).length = L.length := by simp [nrows]
theorem nrows_app (L : List (List Int)) (r : List Int) : nrows L ++ [.sl r.length (isl r)] = nrows (L ++ [r]) := by simp [nrows]
theorem rngd {l : List Int} (hr : Rng l) (i : Nat) : -9223372036854775808 ≤ l.getD i 0 ∧ l.getD i 0 ≤ 9223372036854775807 := by
 by_cases h : i < l.length
 ·exact hr _ (getD_memI h)
 ·rw [List.getD_eq_getElem?_getD, List.getElem?_eq_none (by omega)]; decide
theorem par32_spec (m : Nat) (l : List Int) (hm : l.length = m) (h1 : m ≤ 4611686018427387904) (hr : Rng l) :
  Spec Try.prog 56 (inSt [.sl m (isl l)] []) (outSt (.sl (prM l) (nrows (par32 l))) []) := by
 refine Spec.ofN Try.func56 rfl Try.ntmps56 rfl ?_
 refine D_seq fun K1 hK1 => ?_
 refine D_region ?_
 refine DL_c (op_as _ (rfl : _ = AV.v (.slice _ _ _))) ?_
 refine DL_nil (hK1 _ ?_)
 clear hK1; try clear K1
 refine D_seq fun K2 hK2 => ?_
 refine D_region ?_
 refine DL_c (op_asN (3, 0) _ 29 1 rfl rfl) ?_
 refine DL_nil (hK2 _ ?_)
 clear hK2; try clear K2
 refine D_seq fun K3 hK3 => ?_
 refine D_seq fun K4 hK4 => ?_
 refine D_region ?_
 refine DL_c (asI rfl) ?_
 refine DL_nil (hK4 _ ?_)
 clear hK4; try clear K4
 refine D_block ?_
 refine D_loopL (α := Nat) (fun v => v ≤ 14 ∧ v ≤ 1 + m) 67 [(0, _)] [] (fun v => [(4, .v (.int .i64 (v : Int))), (3, .ref (3, 0) 0 v)]) (fun v => [((3, 0), .row 29 1 (nrows (prL l v)))]) [] [] (fun v => 14 - v) 0 ?_ (by
  refine Le.mkJ [] [] rfl ?_ ?_ trivial trivial ?_
  ·exact ⟨(iS rfl), (lvI (by rfl)), (lvRr rfl (by rfl)), trivial⟩
  ·exact ⟨(obR rfl rfl rfl (by rfl)), trivial⟩
  ·kernel_rfl) ?_
 ·exact ⟨by omega, by omega⟩
 intro v hv
 refine D_seq fun K5 hK5 => ?_
 refine D_seq fun K6 hK6 => ?_
 refine D_region ?_
 refine DL_c (mvI rfl) ?_
 refine DL_c (op_lss _ _ rfl rfl rfl) ?_
 refine DL_c (mvB rfl) ?_
 refine DL_caseC (fun hg11 => ?_) (fun hg11 => ?_)
 ·skip
  refine DL_cy rfl rfl (mvI rfl) ?_
  refine DL_cy rfl rfl (mvS rfl) ?_
  refine DL_cy rfl rfl (op_lenS _ inferInstance rfl) ?_
  refine DL_cy rfl rfl (op_add _ _ rfl rfl (i64w (by omega))) ?_
  refine DL_cy rfl rfl (op_lss _ _ rfl rfl rfl) ?_
  refine DL_c (op_pick _ _ _ rfl (rfl : _ = AV.v (.bool _))) ?_
  refine DL_nil (hK6 _ ?_)
  clear hK6; try clear K6
  refine D_splitC rfl (fun hc17 => ?_) (fun hc17 => ?_)
  ·skip
   refine D_skip (hK5 _ ?_)
   clear hK5; try clear K5
   refine D_seq fun K7 hK7 => ?_
   refine D_block ?_
   refine D_seq fun K8 hK8 => ?_
   refine D_region ?_
   refine DL_c (op_asN (5, 0) _ 3 1 rfl rfl) ?_
   refine DL_nil (hK8 _ ?_)
   clear hK8; try clear K8
   refine D_seq fun K9 hK9 => ?_
   refine D_seq fun K10 hK10 => ?_
   refine D_region ?_
   refine DL_c (mvI rfl) ?_
   refine DL_c (op_gtr _ _ rfl rfl rfl) ?_
   refine DL_nil (hK10 _ ?_)
   clear hK10; try clear K10
   refine D_splitC rfl (fun hc21 => ?_) (fun hc21 => ?_)
   ·skip
    have hN0 := around_lo (l.getD (v - 1) 0) 1000000 (by omega)
    have hN1 := around_hi (l.getD (v - 1) 0) 1000000 (by omega)
    have hrg := rngd hr (v - 1)
    have hp1 : pr1 l v = (prK v (around (l.getD (v - 1) 0) 1000000) 3).1 := if_pos (by omega)
    refine D_seq fun K11 hK11 => ?_
    refine D_region ?_
    refine DL_c (mvS rfl) ?_
    refine DL_c (mvI rfl) ?_
    refine DL_c (op_sub _ _ rfl rfl (i64w (by omega))) ?_
    refine DL_c (op_ixS _ _ inferInstance rfl rfl (v - 1) (by omega) (by omega) (by simp; omega) (Nat.mul_one _)) ?_
    refine DL_c (op_ldF _ inferInstance rfl (by exact isl_get _ _ (by omega)) rfl) ?_
    refine DL_c (op_callH inferInstance (by repeat' (first | exact argsLv_nil | refine argsLv_cons ?_ ?_ | exact Lv.v)) (around_spec (l.getD (v - 1) 0) 1000000 (by omega) (by omega) hrg.1 hrg.2) rfl rfl) ?_
    refine DL_c (asI rfl) ?_
    refine DL_nil (hK11 _ ?_)
    clear hK11; try clear K11
    refine D_seq fun K12 hK12 => ?_
    refine D_le (σ' := mkStI 67 [(0, _), (3, _), (4, _), (5, _), (6, _)] [((3, 0), _), ((5, 0), _)] [] []) (by
     refine Le.mkJ [] [] rfl ?_ ?_ trivial trivial ?_
     ·exact ⟨(iS rfl), (iR rfl), (iV rfl), (iR rfl), (iV rfl), trivial⟩
     ·exact ⟨(obE rfl rfl rfl), (obE rfl rfl rfl), trivial⟩
     ·kernel_rfl) ?_
    refine D_region ?_
    refine DL_c (asI rfl) ?_
    refine DL_nil (hK12 _ ?_)
    clear hK12; try clear K12
    refine D_block ?_
    refine D_loopL (α := Nat × List Int × Int) (fun z => z.1 ≤ 3 ∧ prK v (around (l.getD (v - 1) 0) 1000000) z.1 = (z.2.1, z.2.2) ∧ 0 ≤ z.2.2 ∧ z.2.2 ≤ 1000000 ∧ z.2.1.length ≤ z.1) 67 [(0, _), (3, _), (4, _)] [((3, 0), _)] (fun z => [(7, .v (.int .i64 (z.1 : Int))), (5, .ref (5, 0) 0 z.2.1.length), (6, .v (.int .i64 z.2.2))]) (fun z => [((5, 0), .row 3 1 (isl z.2.1))]) [] [] (fun z => 3 - z.1) (0, [], around (l.getD (v - 1) 0) 1000000) ?_ (by
     refine Le.mkJ [] [] rfl ?_ ?_ trivial trivial ?_
     ·exact ⟨(iS rfl), (iR rfl), (iV rfl), (lvI (by rfl)), (lvRr rfl (by rfl)), (lvI (by rfl)), trivial⟩
     ·exact ⟨(obE rfl rfl rfl), (obR rfl rfl rfl (by rfl)), trivial⟩
     ·kernel_rfl) ?_
    ·exact ⟨by omega, rfl, hN0, by simp only; omega, Nat.le_refl _⟩
    intro z hz
    obtain ⟨hz1, hzk, hn0, hn1, hol⟩ := hz
    refine D_seq fun K13 hK13 => ?_
    refine D_seq fun K14 hK14 => ?_
    refine D_region ?_
    refine DL_c (mvI rfl) ?_
    refine DL_c (op_lss _ _ rfl rfl rfl) ?_
    refine DL_nil (hK14 _ ?_)
    clear hK14; try clear K14
    refine D_splitC rfl (fun hc29 => ?_) (fun hc29 => ?_)
    ·skip
     refine D_skip (hK13 _ ?_)
     clear hK13; try clear K13
     refine D_seq fun K15 hK15 => ?_
     refine D_block ?_
     refine D_seq fun K16 hK16 => ?_
     refine D_region ?_
     refine DL_c (mvI rfl) ?_
     refine DL_c (op_sub _ _ rfl rfl (i64w (by omega))) ?_
     refine DL_c (mvI rfl) ?_
     refine DL_c (op_rem _ _ rfl rfl (by omega) (Int.tmod_eq_emod_of_nonneg (by omega))) ?_
     refine DL_c (op_sub _ _ rfl rfl (i64w (by omega))) ?_
     refine DL_c (asI rfl) ?_
     refine DL_nil (hK16 _ ?_)
     clear hK16; try clear K16
     refine D_seq fun K17 hK17 => ?_
     refine D_region ?_
     refine DL_c (mvI rfl) ?_
     refine DL_c (op_quo _ _ rfl rfl (by omega) ((i64w (by rw [Int.tdiv_eq_ediv_of_nonneg (by omega)]; omega)).trans (Int.tdiv_eq_ediv_of_nonneg (by omega)))) ?_
     refine DL_c (asI rfl) ?_
     refine DL_nil (hK17 _ ?_)
     clear hK17; try clear K17
     refine D_seq fun K18 hK18 => ?_
     refine D_seq fun K19 hK19 => ?_
     refine D_region ?_
     refine DL_c (mvI rfl) ?_
     refine DL_c (op_geq _ _ rfl rfl rfl) ?_
     refine DL_c (mvB rfl) ?_
     refine DL_caseC (fun hg41 => ?_) (fun hg41 => ?_)
     ·skip
      refine DL_cy rfl rfl (mvR rfl) ?_
      refine DL_cy rfl rfl (mvI rfl) ?_
      refine DL_cy rfl rfl (op_callBH inferInstance (by repeat' (first | exact argsLv_nil | refine argsLv_cons ?_ ?_ | exact Lv.v | (refine frz0 rfl rfl ?_ rfl; (simp; done)))) (has_spec z.2.1.length z.2.1 ((v : Int) - 1 - z.2.2 % 4) rfl (by omega)) rfl) ?_
      refine DL_cy rfl rfl (op_not _ rfl rfl) ?_
      refine DL_c (op_pick _ _ _ rfl (rfl : _ = AV.v (.bool _))) ?_
      refine DL_c (mvB rfl) ?_
      refine DL_caseC (fun hg47 => ?_) (fun hg47 => ?_)
      ·skip
       refine DL_cy rfl rfl (mvI rfl) ?_
       refine DL_cy rfl rfl (op_eql _ _ rfl rfl rfl) ?_
       refine DL_cy rfl rfl (mvB rfl) ?_
       refine DL_caseC (fun hg50 => ?_) (fun hg50 => ?_)
       ·skip
        refine DL_cn rfl rfl (by decide) ?_
        refine DL_cn rfl rfl (by decide) ?_
        refine DL_cn rfl rfl (by decide) ?_
        refine DL_cy rfl rfl (op_pick _ _ _ rfl (rfl : _ = AV.v (.bool _))) ?_
        refine DL_c (op_pick _ _ _ rfl (rfl : _ = AV.v (.bool _))) ?_
        refine DL_nil (hK19 _ ?_)
        clear hK19; try clear K19
        refine D_cT rfl rfl ?_
        refine D_le (σ' := mkStI 67 [(0, _), (3, _), (4, _), (5, _), (6, _), (7, _), (8, _)] [((3, 0), _), ((5, 0), _)] [] []) (by
         refine Le.mkJ [] [] rfl ?_ ?_ trivial trivial ?_
         ·exact ⟨(iS rfl), (iR rfl), (iV rfl), (iR rfl), (iV rfl), (iV rfl), (iV rfl), trivial⟩
         ·exact ⟨(obE rfl rfl rfl), (obE rfl rfl rfl), trivial⟩
         ·kernel_rfl) ?_
        refine D_region ?_
        refine DL_c (mvR rfl) ?_
        refine DL_c (mvI rfl) ?_
        refine DL_c (op_bsF _ _ inferInstance rfl (by rfl) (by simp <;> rfl) (by decide) rfl) ?_
        refine DL_c (op_ap (59, 0) _ _ inferInstance rfl rfl (by (simp only [isl_len, bsl_len, psl_len, mrows_len, nsl_len, ws_len, List.length_map, ul_len, psl_len, isl_len, nrows_len, prL_len]; omega)) (by (refine .sl ?_; (simp [isl]; done))) (by omega) rfl (rfl) (rfl)) ?_
        refine DL_c (asR rfl) ?_
        refine DL_nil (hK18 _ ?_)
        clear hK18; try clear K18
        refine D_region ?_
        refine DL_c (mvI rfl) ?_
        refine DL_c (op_quo _ _ rfl rfl (by omega) ((i64w (by rw [Int.tdiv_eq_ediv_of_nonneg (by omega)]; omega)).trans (Int.tdiv_eq_ediv_of_nonneg (by omega)))) ?_
        refine DL_c (asI rfl) ?_
        refine DL_nil (hK15 _ ?_)
        clear hK15; try clear K15
        refine D_region ?_
        refine DL_c (mvI rfl) ?_
        refine DL_c (op_add _ _ rfl rfl (i64w (by omega))) ?_
        refine DL_c (asI rfl) ?_
        refine DL_nil ?_
        refine ⟨(z.1 + 1, z.2.1 ++ [(v : Int) - 1 - z.2.2 % 4], z.2.2 / 4 / 3), ?_, ?_, ?_⟩
        ·exact ⟨by simp only; omega, prK_yes hzk ⟨hg41, hg47, .inl (by omega)⟩, by simp only; omega, by simp only; omega, by simp; omega⟩
        ·skip
         refine Le.mkJ [((5, 0), (59, 0))] [] rfl ?_ ?_ trivial trivial ?_
         ·exact ⟨(by repeat' (exact Lv.sl)), (lvRr (id := (3, 0)) rfl rfl), (by repeat' (exact Lv.v)), (lvI (by rfl)), (lvRr rfl (by (simp; done))), (lvI (by rfl)), trivial⟩
         ·exact ⟨(obR rfl rfl rfl rfl), (obR rfl rfl rfl (by simp [isl])), trivial⟩
         ·kernel_rfl
        ·simp only; omega
       ·skip
        refine DL_cy rfl rfl (mvI rfl) ?_
        refine DL_cy rfl rfl (op_rem _ _ rfl rfl (by omega) (Int.tmod_eq_emod_of_nonneg (by omega))) ?_
        refine DL_cy rfl rfl (op_eql _ _ rfl rfl rfl) ?_
        refine DL_cy rfl rfl (op_pick _ _ _ rfl (rfl : _ = AV.v (.bool _))) ?_
        refine DL_c (op_pick _ _ _ rfl (rfl : _ = AV.v (.bool _))) ?_
        refine DL_nil (hK19 _ ?_)
        clear hK19; try clear K19
        refine D_splitC rfl (fun hc55 => ?_) (fun hc55 => ?_)
        ·skip
         refine D_le (σ' := mkStI 67 [(0, _), (3, _), (4, _), (5, _), (6, _), (7, _), (8, _)] [((3, 0), _), ((5, 0), _)] [] []) (by
          refine Le.mkJ [] [] rfl ?_ ?_ trivial trivial ?_
          ·exact ⟨(iS rfl), (iR rfl), (iV rfl), (iR rfl), (iV rfl), (iV rfl), (iV rfl), trivial⟩
          ·exact ⟨(obE rfl rfl rfl), (obE rfl rfl rfl), trivial⟩
          ·kernel_rfl) ?_
         refine D_region ?_
         refine DL_c (mvR rfl) ?_
         refine DL_c (mvI rfl) ?_
         refine DL_c (op_bsF _ _ inferInstance rfl (by rfl) (by simp <;> rfl) (by decide) rfl) ?_
         refine DL_c (op_ap (59, 0) _ _ inferInstance rfl rfl (by (simp only [isl_len, bsl_len, psl_len, mrows_len, nsl_len, ws_len, List.length_map, ul_len, psl_len, isl_len, nrows_len, prL_len]; omega)) (by (refine .sl ?_; (simp [isl]; done))) (by omega) rfl (rfl) (rfl)) ?_
         refine DL_c (asR rfl) ?_
         refine DL_nil (hK18 _ ?_)
         clear hK18; try clear K18
         refine D_region ?_
         refine DL_c (mvI rfl) ?_
         refine DL_c (op_quo _ _ rfl rfl (by omega) ((i64w (by rw [Int.tdiv_eq_ediv_of_nonneg (by omega)]; omega)).trans (Int.tdiv_eq_ediv_of_nonneg (by omega)))) ?_
         refine DL_c (asI rfl) ?_
         refine DL_nil (hK15 _ ?_)
         clear hK15; try clear K15
         refine D_region ?_
         refine DL_c (mvI rfl) ?_
         refine DL_c (op_add _ _ rfl rfl (i64w (by omega))) ?_
         refine DL_c (asI rfl) ?_
         refine DL_nil ?_
         refine ⟨(z.1 + 1, z.2.1 ++ [(v : Int) - 1 - z.2.2 % 4], z.2.2 / 4 / 3), ?_, ?_, ?_⟩
         ·exact ⟨by simp only; omega, prK_yes hzk ⟨hg41, hg47, .inr hc55⟩, by simp only; omega, by simp only; omega, by simp; omega⟩
         ·skip
          refine Le.mkJ [((5, 0), (59, 0))] [] rfl ?_ ?_ trivial trivial ?_
          ·exact ⟨(by repeat' (exact Lv.sl)), (lvRr (id := (3, 0)) rfl rfl), (by repeat' (exact Lv.v)), (lvI (by rfl)), (lvRr rfl (by (simp; done))), (lvI (by rfl)), trivial⟩
          ·exact ⟨(obR rfl rfl rfl rfl), (obR rfl rfl rfl (by simp [isl])), trivial⟩
          ·kernel_rfl
         ·simp only; omega
        ·skip
         refine D_skip (hK18 _ ?_)
         clear hK18; try clear K18
         refine D_le (σ' := mkStI 67 [(0, _), (3, _), (4, _), (5, _), (6, _), (7, _)] [((3, 0), _), ((5, 0), _)] [] []) (by
          refine Le.mkJ [] [] rfl ?_ ?_ trivial trivial ?_
          ·exact ⟨(iS rfl), (iR rfl), (iV rfl), (iR rfl), (iV rfl), (iV rfl), trivial⟩
          ·exact ⟨(obE rfl rfl rfl), (obE rfl rfl rfl), trivial⟩
          ·kernel_rfl) ?_
         refine D_region ?_
         refine DL_c (mvI rfl) ?_
         refine DL_c (op_quo _ _ rfl rfl (by omega) ((i64w (by rw [Int.tdiv_eq_ediv_of_nonneg (by omega)]; omega)).trans (Int.tdiv_eq_ediv_of_nonneg (by omega)))) ?_
         refine DL_c (asI rfl) ?_
         refine DL_nil (hK15 _ ?_)
         clear hK15; try clear K15
         refine D_region ?_
         refine DL_c (mvI rfl) ?_
         refine DL_c (op_add _ _ rfl rfl (i64w (by omega))) ?_
         refine DL_c (asI rfl) ?_
         refine DL_nil ?_
         refine ⟨(z.1 + 1, z.2.1, z.2.2 / 4 / 3), ?_, ?_, ?_⟩
         ·exact ⟨by simp only; omega, prK_no hzk (fun h => by rcases h.2.2 with h | h <;> omega), by simp only; omega, by simp only; omega, by simp only; omega⟩
         ·skip
          refine Le.mkJ [] [] rfl ?_ ?_ trivial trivial ?_
          ·exact ⟨(iS rfl), (iR rfl), (iV rfl), (lvI (by rfl)), (lvRr rfl (by rfl)), (lvI (by rfl)), trivial⟩
          ·exact ⟨(obE rfl rfl rfl), (obR rfl rfl rfl (by rfl)), trivial⟩
          ·kernel_rfl
         ·simp only; omega
      ·skip
       refine DL_cn rfl rfl (by decide) ?_
       refine DL_cn rfl rfl (by decide) ?_
       refine DL_cn rfl rfl (by decide) ?_
       refine DL_cu rfl rfl ?_
       refine DL_cu rfl rfl ?_
       refine DL_cu rfl rfl ?_
       refine DL_cn rfl rfl (by decide) ?_
       refine DL_c (op_pick _ _ _ rfl (rfl : _ = AV.v (.bool _))) ?_
       refine DL_nil (hK19 _ ?_)
       clear hK19; try clear K19
       refine D_cF rfl rfl ?_
       refine D_skip (hK18 _ ?_)
       clear hK18; try clear K18
       refine D_le (σ' := mkStI 67 [(0, _), (3, _), (4, _), (5, _), (6, _), (7, _)] [((3, 0), _), ((5, 0), _)] [] []) (by
        refine Le.mkJ [] [] rfl ?_ ?_ trivial trivial ?_
        ·exact ⟨(iS rfl), (iR rfl), (iV rfl), (iR rfl), (iV rfl), (iV rfl), trivial⟩
        ·exact ⟨(obE rfl rfl rfl), (obE rfl rfl rfl), trivial⟩
        ·kernel_rfl) ?_
       refine D_region ?_
       refine DL_c (mvI rfl) ?_
       refine DL_c (op_quo _ _ rfl rfl (by omega) ((i64w (by rw [Int.tdiv_eq_ediv_of_nonneg (by omega)]; omega)).trans (Int.tdiv_eq_ediv_of_nonneg (by omega)))) ?_
       refine DL_c (asI rfl) ?_
       refine DL_nil (hK15 _ ?_)
       clear hK15; try clear K15
       refine D_region ?_
       refine DL_c (mvI rfl) ?_
       refine DL_c (op_add _ _ rfl rfl (i64w (by omega))) ?_
       refine DL_c (asI rfl) ?_
       refine DL_nil ?_
       refine ⟨(z.1 + 1, z.2.1, z.2.2 / 4 / 3), ?_, ?_, ?_⟩
       ·exact ⟨by simp only; omega, prK_no hzk (fun h => h.2.1 hg47), by simp only; omega, by simp only; omega, by simp only; omega⟩
       ·skip
        refine Le.mkJ [] [] rfl ?_ ?_ trivial trivial ?_
        ·exact ⟨(iS rfl), (iR rfl), (iV rfl), (lvI (by rfl)), (lvRr rfl (by rfl)), (lvI (by rfl)), trivial⟩
        ·exact ⟨(obE rfl rfl rfl), (obR rfl rfl rfl (by rfl)), trivial⟩
        ·kernel_rfl
       ·simp only; omega
     ·skip
      refine DL_cn rfl rfl (by decide) ?_
      refine DL_cn rfl rfl (by decide) ?_
      refine DL_cn rfl rfl (by decide) ?_
      refine DL_cn rfl rfl (by decide) ?_
      refine DL_c (op_pick _ _ _ rfl (rfl : _ = AV.v (.bool _))) ?_
      refine DL_c (mvB rfl) ?_
      refine DL_cn rfl rfl (by decide) ?_
      refine DL_cn rfl rfl (by decide) ?_
      refine DL_cn rfl rfl (by decide) ?_
      refine DL_cu rfl rfl ?_
      refine DL_cu rfl rfl ?_
      refine DL_cu rfl rfl ?_
      refine DL_cn rfl rfl (by decide) ?_
      refine DL_c (op_pick _ _ _ rfl (rfl : _ = AV.v (.bool _))) ?_
      refine DL_nil (hK19 _ ?_)
      clear hK19; try clear K19
      refine D_cF rfl rfl ?_
      refine D_skip (hK18 _ ?_)
      clear hK18; try clear K18
      refine D_le (σ' := mkStI 67 [(0, _), (3, _), (4, _), (5, _), (6, _), (7, _)] [((3, 0), _), ((5, 0), _)] [] []) (by
       refine Le.mkJ [] [] rfl ?_ ?_ trivial trivial ?_
       ·exact ⟨(iS rfl), (iR rfl), (iV rfl), (iR rfl), (iV rfl), (iV rfl), trivial⟩
       ·exact ⟨(obE rfl rfl rfl), (obE rfl rfl rfl), trivial⟩
       ·kernel_rfl) ?_
      refine D_region ?_
      refine DL_c (mvI rfl) ?_
      refine DL_c (op_quo _ _ rfl rfl (by omega) ((i64w (by rw [Int.tdiv_eq_ediv_of_nonneg (by omega)]; omega)).trans (Int.tdiv_eq_ediv_of_nonneg (by omega)))) ?_
      refine DL_c (asI rfl) ?_
      refine DL_nil (hK15 _ ?_)
      clear hK15; try clear K15
      refine D_region ?_
      refine DL_c (mvI rfl) ?_
      refine DL_c (op_add _ _ rfl rfl (i64w (by omega))) ?_
      refine DL_c (asI rfl) ?_
      refine DL_nil ?_
      refine ⟨(z.1 + 1, z.2.1, z.2.2 / 4 / 3), ?_, ?_, ?_⟩
      ·exact ⟨by simp only; omega, prK_no hzk (fun h => by have := h.1; omega), by simp only; omega, by simp only; omega, by simp only; omega⟩
      ·skip
       refine Le.mkJ [] [] rfl ?_ ?_ trivial trivial ?_
       ·exact ⟨(iS rfl), (iR rfl), (iV rfl), (lvI (by rfl)), (lvRr rfl (by rfl)), (lvI (by rfl)), trivial⟩
       ·exact ⟨(obE rfl rfl rfl), (obR rfl rfl rfl (by rfl)), trivial⟩
       ·kernel_rfl
      ·simp only; omega
    ·skip
     have hpz : pr1 l v = z.2.1 := by rw [hp1, ← (by omega : z.1 = 3), hzk]
     have hnx : nrows (prL l (v + 1)) = nrows (prL l v) ++ [.sl z.2.1.length (isl z.2.1)] := by rw [prL_succ, hpz, nrows_app]
     refine D_exit ?_
     refine id (hK9 _ ?_)
     clear hK9; try clear K9
     refine D_le (Le.frzS (ys := isl z.2.1) 5 rfl rfl rfl (by rw [List.drop_zero, Nat.mul_one]; exact List.take_of_length_le (by simp)) (by simp)) ?_
     refine D_region ?_
     refine DL_c (mvR rfl) ?_
     refine DL_c (mvS rfl) ?_
     refine DL_c (op_bsF _ _ inferInstance rfl (by rfl) (by simp <;> rfl) (by decide) rfl) ?_
     refine DL_c (op_ap (65, 0) _ _ inferInstance rfl rfl (by (simp only [isl_len, bsl_len, psl_len, mrows_len, nsl_len, ws_len, List.length_map, ul_len, psl_len, isl_len, nrows_len, prL_len]; omega)) (by (refine .sl ?_; (simp [isl]; done))) (by omega) rfl (rfl) (rfl)) ?_
     refine DL_c (asR rfl) ?_
     refine DL_nil (hK7 _ ?_)
     clear hK7; try clear K7
     refine D_region ?_
     refine DL_c (mvI rfl) ?_
     refine DL_c (op_add _ _ rfl rfl (i64w (by omega))) ?_
     refine DL_c (asI rfl) ?_
     refine DL_nil ?_
     refine ⟨v + 1, ?_, ?_, ?_⟩
     ·omega
     ·skip
      refine Le.mkJ [((3, 0), (65, 0))] [] rfl ?_ ?_ trivial trivial ?_
      ·exact ⟨(by repeat' (exact Lv.sl)), (lvI (by rfl)), (lvRr rfl (by rfl)), trivial⟩
      ·exact ⟨(obR rfl rfl rfl (by rw [hnx])), trivial⟩
      ·kernel_rfl
     ·omega
   ·skip
    have hnx : nrows (prL l (v + 1)) = nrows (prL l v) ++ [.sl 0 (isl [])] := by rw [prL_succ, show pr1 l v = [] from if_neg (by omega)]; simp [nrows]
    refine D_skip (hK9 _ ?_)
    clear hK9; try clear K9
    refine D_le (Le.frzS (ys := isl []) 5 rfl rfl rfl (by rfl) (by simp)) ?_
    refine D_region ?_
    refine DL_c (mvR rfl) ?_
    refine DL_c (mvS rfl) ?_
    refine DL_c (op_bsF _ _ inferInstance rfl (by rfl) (by simp <;> rfl) (by decide) rfl) ?_
    refine DL_c (op_ap (65, 0) _ _ inferInstance rfl rfl (by (simp only [isl_len, bsl_len, psl_len, mrows_len, nsl_len, ws_len, List.length_map, ul_len, psl_len, isl_len, nrows_len, prL_len]; omega)) (by (refine .sl ?_; (simp [isl]; done))) (by omega) rfl (rfl) (rfl)) ?_
    refine DL_c (asR rfl) ?_
    refine DL_nil (hK7 _ ?_)
    clear hK7; try clear K7
    refine D_le (σ' := mkStI 67 [(0, _), (3, _), (4, _)] [((65, 0), _)] [] []) (by
     refine Le.mkJ [] [] rfl ?_ ?_ trivial trivial ?_
     ·exact ⟨(iS rfl), (iR rfl), (iV rfl), trivial⟩
     ·exact ⟨(obE rfl rfl rfl), trivial⟩
     ·kernel_rfl) ?_
    refine D_region ?_
    refine DL_c (mvI rfl) ?_
    refine DL_c (op_add _ _ rfl rfl (i64w (by omega))) ?_
    refine DL_c (asI rfl) ?_
    refine DL_nil ?_
    refine ⟨v + 1, ?_, ?_, ?_⟩
    ·omega
    ·skip
     refine Le.mkJ [((3, 0), (65, 0))] [] rfl ?_ ?_ trivial trivial ?_
     ·exact ⟨(by repeat' (exact Lv.sl)), (lvI (by rfl)), (lvRr rfl (by rfl)), trivial⟩
     ·exact ⟨(obR rfl rfl rfl (by rw [hnx])), trivial⟩
     ·kernel_rfl
    ·omega
  ·skip
   obtain rfl : v = prM l := by unfold prM; omega
   refine D_exit ?_
   refine id (hK3 _ ?_)
   clear hK3; try clear K3
   refine D_seq fun K20 hK20 => ?_
   refine D_region ?_
   refine DL_c (mvR rfl) ?_
   refine DL_c (asR rfl) ?_
   refine DL_nil (hK20 _ ?_)
   clear hK20; try clear K20
   refine D_ret ?_
   exact ret1 (.inr rfl) rfl (.tmp (rfl : _ = AV.ref _ _ _)) (Le.out [] [(3, 0)] (frz0 rfl rfl (by simp) rfl) rfl rfl rfl ⟨rfl, trivial⟩ trivial)
 ·skip
  obtain rfl : v = prM l := by unfold prM; omega
  refine DL_cn rfl rfl (by decide) ?_
  refine DL_cn rfl rfl (by decide) ?_
  refine DL_cn rfl rfl (by decide) ?_
  refine DL_cn rfl rfl (by decide) ?_
  refine DL_cn rfl rfl (by decide) ?_
  refine DL_c (op_pick _ _ _ rfl (rfl : _ = AV.v (.bool _))) ?_
  refine DL_nil (hK6 _ ?_)
  clear hK6; try clear K6
  refine D_cF rfl rfl ?_
  refine D_exit ?_
  refine id (hK3 _ ?_)
  clear hK3; try clear K3
  refine D_seq fun K21 hK21 => ?_
  refine D_region ?_
  refine DL_c (mvR rfl) ?_
  refine DL_c (asR rfl) ?_
  refine DL_nil (hK21 _ ?_)
  clear hK21; try clear K21
  refine D_ret ?_
  exact ret1 (.inr rfl) rfl (.tmp (rfl : _ = AV.ref _ _ _)) (Le.out [] [(3, 0)] (frz0 rfl rfl (by simp) rfl) rfl rfl rfl ⟨rfl, trivial⟩ trivial)
end Go.Proofs.Ytkbkmngbenohkaa

namespace Go.Proofs.Ytkbkmngbenohkaa
open Go.RowKit

def blR (L : List (Nat × List Nat)) : List PV := L.flatMap fun b => [.v (.int .i64 (b.1 : Int)), .sl b.2.length (nsl b.2)]
@[simp] theorem blR_len (L : List (Nat × List Nat)) : (blR L).length = L.length * 2 := by
 induction L with
 | nil => rfl
 | cons b L ih => simp only [blR, List.flatMap_cons, List.length_append, List.length_cons, List.length_nil] at ih ⊢; omega
theorem blR_app (L : List (Nat × List Nat)) (v : Nat) (s : List Nat) : blR L ++ [.v (.int .i64 (v : Int)), .sl s.length (nsl s)] = blR (L ++ [(v, s)]) := by simp [blR]
theorem wat_lt {n : Nat} {E : Prs} {v : Int} {u : Nat} (h : u ∈ wat n (ancW n E) v) : u < n := by
 unfold wat at h
 split at h
 ·rename_i hv
  rw [ancW_get (by omega)] at h
  have := (els_mem.1 h).2
  rw [aw1, cw_bit, Bool.and_eq_true, decide_eq_true_eq] at this
  exact this.1
 ·cases h
theorem wat_len {n : Nat} (P : List Nat) (v : Int) : (wat n P v).length ≤ 64 := by
 unfold wat; split
 ·exact els_len _
 ·exact Nat.zero_le _
end Go.Proofs.Ytkbkmngbenohkaa

namespace Go.Proofs.Ytkbkmngbenohkaa
open Go.RowKit

def pk (l : List Int) (i : Nat) (n : Int) : Int := if i < l.length then around (l.getD i 0) n else 0
theorem pick_spec (m : Nat) (l : List Int) (hm : l.length = m) (h1 : m ≤ 4611686018427387904) (hr : Rng l) (i : Nat) (n : Int) (hn : 1 ≤ n) (hn1 : n ≤ 4611686018427387904) :
  Spec Try.prog 96 (inSt [.sl m (isl l), .v (.int .i64 (i : Int)), .v (.int .i64 n)] []) (outSt (.v (.int .i64 (pk l i n))) []) := by
 have hrg := rngd hr i
 refine Spec.ofN Try.func96 rfl Try.ntmps96 rfl ?_
 refine D_seq fun K1 hK1 => ?_
 refine D_region ?_
 refine DL_c (asI rfl) ?_
 refine DL_nil (hK1 _ ?_)
 clear hK1; try clear K1
 refine D_seq fun K2 hK2 => ?_
 refine D_seq fun K3 hK3 => ?_
 refine D_region ?_
 refine DL_c (mvI rfl) ?_
 refine DL_c (op_lss _ _ rfl rfl rfl) ?_
 refine DL_c (mvB rfl) ?_
 refine DL_caseC (fun hg9 => ?_) (fun hg9 => ?_)
 ·skip
  refine DL_cn rfl rfl (by decide) ?_
  refine DL_cn rfl rfl (by decide) ?_
  refine DL_cn rfl rfl (by decide) ?_
  refine DL_cn rfl rfl (by decide) ?_
  refine DL_c (op_pick _ _ _ rfl (rfl : _ = AV.v (.bool _))) ?_
  refine DL_nil (hK3 _ ?_)
  clear hK3; try clear K3
  refine D_cT rfl rfl ?_
  refine D_seq fun K4 hK4 => ?_
  refine D_region ?_
  refine DL_c (asI rfl) ?_
  refine DL_nil (hK4 _ ?_)
  clear hK4; try clear K4
  refine D_ret ?_
  exact absurd hg9 (by omega)
 ·skip
  refine DL_cy rfl rfl (mvI rfl) ?_
  refine DL_cy rfl rfl (mvS rfl) ?_
  refine DL_cy rfl rfl (op_lenS _ inferInstance rfl) ?_
  refine DL_cy rfl rfl (op_geq _ _ rfl rfl rfl) ?_
  refine DL_c (op_pick _ _ _ rfl (rfl : _ = AV.v (.bool _))) ?_
  refine DL_nil (hK3 _ ?_)
  clear hK3; try clear K3
  refine D_splitC rfl (fun hc14 => ?_) (fun hc14 => ?_)
  ·skip
   refine D_seq fun K5 hK5 => ?_
   refine D_region ?_
   refine DL_c (asI rfl) ?_
   refine DL_nil (hK5 _ ?_)
   clear hK5; try clear K5
   refine D_ret ?_
   refine ret1 (.inr rfl) rfl (.tmp (rfl : _ = AV.v (.int _ _))) (Le.out [] [] (lvI ?_) rfl rfl rfl trivial trivial)
   unfold pk; rw [if_neg (by omega)]
  ·skip
   refine D_skip (hK2 _ ?_)
   clear hK2; try clear K2
   refine D_seq fun K6 hK6 => ?_
   refine D_region ?_
   refine DL_c (mvS rfl) ?_
   refine DL_c (mvI rfl) ?_
   refine DL_c (op_ixS _ _ inferInstance rfl rfl _ rfl (by omega) (by (simp only [isl_len, bsl_len, psl_len, mrows_len, nsl_len, ws_len, List.length_map, ul_len, psl_len, isl_len, nrows_len, prL_len, blR_len]; omega)) (by exact Nat.mul_one _)) ?_
   refine DL_c (op_ldF _ inferInstance rfl (by exact isl_get _ _ (by omega)) rfl) ?_
   refine DL_c (mvI rfl) ?_
   refine DL_c (op_callH inferInstance (by repeat' (first | exact argsLv_nil | refine argsLv_cons ?_ ?_ | exact Lv.v)) (around_spec (l.getD i 0) n hn hn1 hrg.1 hrg.2) rfl rfl) ?_
   refine DL_c (asI rfl) ?_
   refine DL_nil (hK6 _ ?_)
   clear hK6; try clear K6
   refine D_ret ?_
   refine ret1 (.inr rfl) rfl (.tmp (rfl : _ = AV.v (.int _ _))) (Le.out [] [] (lvI ?_) rfl rfl rfl trivial trivial)
   unfold pk; rw [if_pos (by omega)]
theorem blR_get0 (L : List (Nat × List Nat)) : ∀ (i : Nat), i < L.length → (blR L)[i * 2]? = some (.v (.int .i64 (((L.getD i (0, [])).1 : Nat) : Int))) := by
 induction L with
 | nil => intro i h; simp at h
 | cons b L ih =>
  intro i h
  have e : blR (b :: L) = .v (.int .i64 (b.1 : Int)) :: .sl b.2.length (nsl b.2) :: blR L := rfl
  cases i with
  | zero => simp [e]
  | succ i => rw [e, show (i + 1) * 2 = i * 2 + 1 + 1 by omega, List.getElem?_cons_succ, List.getElem?_cons_succ, ih i (by simpa using h)]; rfl
theorem blR_get1 (L : List (Nat × List Nat)) : ∀ (i : Nat), i < L.length → (blR L)[i * 2 + 1]? = some (.sl (L.getD i (0, [])).2.length (nsl (L.getD i (0, [])).2)) := by
 induction L with
 | nil => intro i h; simp at h
 | cons b L ih =>
  intro i h
  have e : blR (b :: L) = .v (.int .i64 (b.1 : Int)) :: .sl b.2.length (nsl b.2) :: blR L := rfl
  cases i with
  | zero => simp [e]
  | succ i => rw [e, show (i + 1) * 2 + 1 = i * 2 + 1 + 1 + 1 by omega, List.getElem?_cons_succ, List.getElem?_cons_succ, ih i (by simpa using h)]; rfl
theorem cast_inj {a b : List Nat} : a.map (fun (x : Nat) => (x : Int)) = b.map (fun (x : Nat) => (x : Int)) ↔ a = b := by
 constructor
 ·intro h
  apply List.ext_getElem
  ·simpa using congrArg List.length h
  ·intro i h1 h2
   have := congrArg (fun l => l[i]?) h
   simp only [List.getElem?_map, List.getElem?_eq_getElem h1, List.getElem?_eq_getElem h2, Option.map_some, Option.some.injEq] at this
   omega
 ·intro h; rw [h]
end Go.Proofs.Ytkbkmngbenohkaa
