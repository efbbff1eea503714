/- versions.New by the machine. -/
import Derived.Test.YtkbkmngbenohkaaVoW1
set_option linter.unusedSimpArgs false
set_option linter.unusedVariables false
namespace Go.Proofs.Ytkbkmngbenohkaa
open Go.RowKit

def pwL (n : Nat) (Ps : List (List Int)) (v j : Nat) : List Nat := (List.range n).map fun u => if u < v then pw (Ps.getD u []) else if u = v then pw ((Ps.getD v []).take j) else 0
@[simp] theorem pwL_len (n : Nat) (Ps : List (List Int)) (v j : Nat) : (pwL n Ps v j).length = n := by simp [pwL]
theorem pwL_zero (n : Nat) (Ps : List (List Int)) : pwL n Ps 0 0 = List.replicate n 0 := by
  apply List.ext_getElem
  · simp
  · intro i h1 h2
    simp only [pwL, List.getElem_map, List.getElem_range, List.getElem_replicate]
    rw [if_neg (by omega)]
    split <;> rfl
theorem pwL_next (n : Nat) (Ps : List (List Int)) (v : Nat) : pwL n Ps v (Ps.getD v []).length = pwL n Ps (v + 1) 0 := by
  unfold pwL
  refine List.map_congr_left fun u _ => ?_
  rw [List.take_length, List.take_zero]
  by_cases h1 : u < v
  · rw [if_pos h1, if_pos (by omega)]
  · rw [if_neg h1]
    by_cases h2 : u = v
    · subst h2; rw [if_pos rfl, if_pos (by omega)]
    · rw [if_neg h2, if_neg (by omega)]
      split <;> rfl
theorem pwL_get {n : Nat} {Ps : List (List Int)} {v j : Nat} (h : v < n) : (pwL n Ps v j).getD v 0 = pw ((Ps.getD v []).take j) := by
  unfold pwL
  rw [List.getD_eq_getElem?_getD, List.getElem?_map, List.getElem?_range h, Option.map_some, Option.getD_some, if_neg (Nat.lt_irrefl _), if_pos rfl]
theorem pwL_getF {n : Nat} {Ps : List (List Int)} {v j u : Nat} (h : u < n) (hu : u < v) : (pwL n Ps v j).getD u 0 = pw (Ps.getD u []) := by
  unfold pwL
  rw [List.getD_eq_getElem?_getD, List.getElem?_map, List.getElem?_range h, Option.map_some, Option.getD_some, if_pos hu]
theorem pwL_succ {n : Nat} {Ps : List (List Int)} {v j b : Nat} (hj : j < (Ps.getD v []).length) (hb : (Ps.getD v []).getD j 0 = (b : Int)) : pwL n Ps v (j + 1) = (pwL n Ps v j).set v (pw ((Ps.getD v []).take j) ||| 2 ^ b) := by
  apply List.ext_getElem
  · simp
  · intro i h1 h2
    rw [List.getElem_set]
    simp only [pwL, List.getElem_map, List.getElem_range]
    by_cases h3 : v = i
    · subst h3; rw [if_neg (Nat.lt_irrefl _), if_pos rfl, if_pos rfl, take1 0 hj, pw_snoc, hb, Int.toNat_natCast]
    · rw [if_neg h3]
      by_cases h4 : i < v
      · rw [if_pos h4, if_pos h4]
      · rw [if_neg h4, if_neg (by omega), if_neg h4, if_neg (by omega)]
/-- The words of the parents. -/
def parW (Ps : List (List Int)) : List Nat := Ps.map pw
@[simp] theorem parW_len (Ps : List (List Int)) : (parW Ps).length = Ps.length := by simp [parW]
theorem pwL_full (Ps : List (List Int)) : pwL Ps.length Ps Ps.length 0 = parW Ps := by
  apply List.ext_getElem
  · simp
  · intro i h1 h2
    have hi : i < Ps.length := by simpa using h1
    simp only [pwL, parW, List.getElem_map, List.getElem_range]
    rw [if_pos hi, List.getD_eq_getElem?_getD, List.getElem?_eq_getElem hi]; rfl
theorem parW_get {Ps : List (List Int)} {v : Nat} (h : v < Ps.length) : (parW Ps).getD v 0 = pw (Ps.getD v []) := by
  simp [parW, List.getD_eq_getElem?_getD, h]
theorem pw_ok {n : Nat} (hn : n ≤ 64) {l : List Int} (h : OkP n l) : pw l < 18446744073709551616 := pw_lt l fun p hp => by have := h.2 p hp; omega
theorem parW_lt {Ps : List (List Int)} (hV : Valid Ps) (hn : Ps.length ≤ 64) (v : Nat) : (parW Ps).getD v 0 < 18446744073709551616 := by
  by_cases h : v < Ps.length
  · rw [parW_get h]; exact pw_ok hn (hV v h)
  · rw [List.getD_eq_getElem?_getD, List.getElem?_eq_none (by simp; omega)]; decide
theorem parW_bit {Ps : List (List Int)} (hV : Valid Ps) {v : Nat} (h : v < Ps.length) (p : Nat) : ((parW Ps).getD v 0).testBit p = true ↔ ((p : Int), (v : Int)) ∈ edg Ps Ps.length 0 := by
  rw [parW_get h, pw_bit _ _ fun x hx => ((hV v h).2 x hx).1, decide_eq_true_eq, edg_par h]
theorem parW_pw {Ps : List (List Int)} (hV : Valid Ps) (hn : Ps.length ≤ 64) : PW Ps.length (edg Ps Ps.length 0) (parW Ps) :=
  ⟨edg_in hV, hn, parW_len Ps, parW_lt hV hn, fun v hv p => parW_bit hV hv p⟩
theorem aw1_lt {n : Nat} (hn : n ≤ 64) (E : Prs) (v : Nat) : aw1 n E v < 18446744073709551616 := cw_lt n _ hn
theorem ancW_get {n : Nat} {E : Prs} {v : Nat} (h : v < n) : (ancW n E).getD v 0 = aw1 n E v := by simp [ancW, List.getD_eq_getElem?_getD, h]
theorem ancW_lt {n : Nat} (hn : n ≤ 64) (E : Prs) (v : Nat) : (ancW n E).getD v 0 < 18446744073709551616 := by
  by_cases h : v < n
  · rw [ancW_get h]; exact aw1_lt hn E v
  · rw [List.getD_eq_getElem?_getD, List.getElem?_eq_none (by simp; omega)]; decide
/-- The parents' elements, as numbers. -/
def parE (Ps : List (List Int)) (v : Nat) : List Nat := els (pw (Ps.getD v []))
theorem parE_mem {Ps : List (List Int)} (hV : Valid Ps) (hn : Ps.length ≤ 64) {v : Nat} (h : v < Ps.length) (p : Nat) : p ∈ parE Ps v ↔ ((p : Int), (v : Int)) ∈ edg Ps Ps.length 0 := by
  rw [parE, els_mem, ← parW_get h, parW_bit hV h]
  constructor
  · exact fun h => h.2
  · intro he
    have := (Clo.lt (edg_in hV) (.one he)).1
    exact ⟨by omega, he⟩
theorem ul_zeros (n : Nat) : (rep n [Value.int .u64 0]).map PV.v = ul (List.replicate n 0) := by rw [rep_one]; simp [ul]
theorem ul_put (a : List Nat) (k : Nat) (x : Nat) (h : k < a.length) : putL (ul a) k [.v (.int .u64 (x : Int))] = ul (a.set k x) := by rw [putL_one _ _ _ (by simpa using h)]; simp [ul, List.map_set]
theorem ul_get_set (l : List Nat) (k x : Nat) (h : k < l.length) : (ul (l.set k x))[k]? = some (.v (.int .u64 (x : Int))) := by
  rw [ul_get _ _ (by simpa using h), getD_set]; simp [h]
open Classical in
/-- What New answers. -/
noncomputable def newV (Ps : List (List Int)) : AV :=
  if 64 < Ps.length then .tup [.v (.pointer none), .v (.int .i64 2)]
  else if ¬ Valid Ps then .tup [.v (.pointer none), .v (.int .i64 1)]
  else if ∃ a, a < Ps.length ∧ Clo (edg Ps Ps.length 0) a a then .tup [.v (.pointer none), .v (.int .i64 9)]
  else .tup [.fp 0 (gra Ps.length (parW Ps) (ancW Ps.length (edg Ps Ps.length 0))), .v (.int .i64 0)]
theorem okp_snoc {n : Nat} {l : List Int} {p : Int} (h : OkP n l) (h0 : 0 ≤ p) (h1 : p < (n : Int)) (hp : p ∉ l) : OkP n (l ++ [p]) := by
  refine ⟨?_, fun x hx => ?_⟩
  · rw [List.nodup_append]
    exact ⟨h.1, by simp, fun x hx y hy => by simp at hy; subst hy; exact fun e => hp (e ▸ hx)⟩
  · rcases List.mem_append.1 hx with hx | hx
    · exact h.2 x hx
    · simp at hx; omega
theorem ul_get_other (l : List Nat) (a k x : Nat) (h : k < l.length) (hne : k ≠ a) : (ul (l.set a x))[k]? = some (.v (.int .u64 ((l.getD k 0 : Nat) : Int))) := by
  rw [ul_get _ _ (by simpa using h), getD_set, if_neg (by simp [hne])]
theorem newV_arg {Ps : List (List Int)} (h : ¬ 64 < Ps.length) (hv : ¬ Valid Ps) : newV Ps = .tup [.v (.pointer none), .v (.int .i64 1)] := by
  unfold newV; rw [if_neg h, if_pos hv]
theorem newV_cyc {Ps : List (List Int)} (h : ¬ 64 < Ps.length) (hv : Valid Ps) (hc : ∃ a, a < Ps.length ∧ Clo (edg Ps Ps.length 0) a a) : newV Ps = .tup [.v (.pointer none), .v (.int .i64 9)] := by
  unfold newV; rw [if_neg h, if_neg (fun h => h hv), if_pos hc]
theorem newV_ok {Ps : List (List Int)} (h : ¬ 64 < Ps.length) (hv : Valid Ps) (hc : ¬ ∃ a, a < Ps.length ∧ Clo (edg Ps Ps.length 0) a a) : newV Ps = .tup [.fp 0 (gra Ps.length (parW Ps) (ancW Ps.length (edg Ps Ps.length 0))), .v (.int .i64 0)] := by
  unfold newV; rw [if_neg h, if_neg (fun h => h hv), if_neg hc]
theorem cast_get {l : List Nat} {k : Nat} : (l.map fun (x : Nat) => (x : Int)).getD k 0 = ((l.getD k 0 : Nat) : Int) := by
  simp only [List.getD_eq_getElem?_getD, List.getElem?_map]
  cases l[k]? <;> rfl
set_option maxHeartbeats 2000000 in
theorem vnew_spec (n : Nat) (Ps : List (List Int)) (hPs : Ps.length = n) (hn1 : n ≤ 1000) (hm : ∀ v, (Ps.getD v []).length ≤ 100) (hS : Valid Ps → n ≤ 64 → ∀ a, a < n → (nxt (edg Ps n 0) a).length ≤ 12) :
    Spec Try.prog 58 (inSt [.sl n (nrows Ps)] []) (outSt (newV Ps) []) := by
  have hnr : (nrows Ps).length = n := by simp [nrows, hPs]
  refine Spec.ofN Try.func58 rfl Try.ntmps58 rfl ?_
  refine D_seq fun K1 hK1 => ?_
  refine D_region ?_
  refine DL_c (op_as _ (rfl : _ = AV.v _)) ?_
  refine DL_c (op_as _ (rfl : _ = AV.v (.int _ _))) ?_
  refine DL_nil (hK1 _ ?_)
  clear hK1; try clear K1
  refine D_seq fun K2 hK2 => ?_
  refine D_region ?_
  refine DL_c (op_mv _ (rfl : _ = AV.sl _ _)) ?_
  refine DL_c (op_lenS _ inferInstance rfl) ?_
  refine DL_c (op_as _ (rfl : _ = AV.v (.int _ _))) ?_
  refine DL_nil (hK2 _ ?_)
  clear hK2; try clear K2
  refine D_seq fun K3 hK3 => ?_
  refine D_seq fun K4 hK4 => ?_
  refine D_region ?_
  refine DL_c (op_mv _ (rfl : _ = AV.v (.int _ _))) ?_
  first
    | refine DL_c (op_gtr _ _ rfl rfl (by assumption)) ?_
    | refine DL_c (op_gtr _ _ rfl rfl rfl) ?_
  refine DL_nil (hK4 _ ?_)
  clear hK4; try clear K4
  refine D_splitC rfl (fun hc20 => ?_) (fun hc20 => ?_)
  · skip
    refine D_seq fun K5 hK5 => ?_
    refine D_region ?_
    refine DL_c (op_as _ (rfl : _ = AV.v _)) ?_
    refine DL_c (op_as _ (rfl : _ = AV.v (.int _ _))) ?_
    refine DL_nil (hK5 _ ?_)
    clear hK5; try clear K5
    refine D_ret ?_
    rw [show newV Ps = .tup [.v (.pointer none), .v (.int .i64 2)] from if_pos (by omega)]
    exact ret2 (.inr rfl) rfl (.tmp (rfl : _ = AV.v _)) (.tmp (rfl : _ = AV.v _)) (Le.out [] [] (.tup rfl (lv_cons .v (lv_cons .v lv_nil))) rfl rfl rfl trivial trivial)
  · skip
    have hedl := fun v j => edg_len hm v j
    refine D_skip (hK3 _ ?_)
    clear hK3; try clear K3
    refine D_seq fun K6 hK6 => ?_
    refine D_le (σ' := mkStI 135 [(0, _), (4, _)] [] [] []) (by
      refine Le.mkJ [] [] rfl ?_ ?_ trivial trivial ?_
      · exact ⟨(iS rfl), (iV rfl), trivial⟩
      · exact trivial
      · kernel_rfl) ?_
    refine D_anyL 7 [21, 22, 23, 24, 25, 26, 5] [(22, 0), (24, 0), (26, 0)] (by kernel_rfl) (by kernel_rfl) rfl (nodupO_iff rfl) (rfl : _ = [_, _, _, _, _, _, _]) (rfl : _ = []) ?_
    refine any_c (_, []) (fun τ => op_mv _ (rfl : _ = AV.v (.int _ _))) ?_
    refine any_n (rfl : _ = [_]) ?_
    refine any_c (_, [((22, 0), _)]) (fun τ => op_mk (xs := ul (List.replicate n 0)) (22, 0) _ _ inferInstance rfl rfl n rfl rfl (by omega) rfl (ul_zeros n)) ?_
    refine any_n (rfl : _ = [_, _]) ?_
    refine any_c (_, []) (fun τ => op_mv _ (rfl : _ = AV.v (.int _ _))) ?_
    refine any_n (rfl : _ = [_, _, _]) ?_
    refine any_c (_, [((24, 0), _)]) (fun τ => op_mk (xs := ul (List.replicate n 0)) (24, 0) _ _ inferInstance rfl rfl n rfl rfl (by omega) rfl (ul_zeros n)) ?_
    refine any_n (rfl : _ = [_, _, _, _]) ?_
    refine any_c (_, []) (fun τ => op_build (ys := [.ref (22, 0) 0 n, .ref (24, 0) 0 n]) _ inferInstance rfl rfl) ?_
    refine any_n (rfl : _ = [_, _, _, _, _]) ?_
    refine any_c (_, [((26, 0), _)]) (fun τ => op_box (26, 0) _ rfl rfl) ?_
    refine any_n (rfl : _ = [_, _, _, _, _, _]) ?_
    refine any_c (_, []) (fun τ => op_as _ (rfl : _ = AV.ptr _ _)) ?_
    refine any_n (rfl : _ = [_, _, _, _, _, _, _]) ?_
    refine any_end ⟨rfl, ?_⟩
    refine DL_nil (hK6 _ ?_)
    clear hK6; try clear K6
    refine D_seq fun K7 hK7 => ?_
    refine D_region ?_
    refine DL_c (op_asN (6, 0) _ 38 2 rfl rfl) ?_
    refine DL_nil (hK7 _ ?_)
    clear hK7; try clear K7
    refine D_seq fun K8 hK8 => ?_
    refine D_seq fun K9 hK9 => ?_
    refine D_region ?_
    refine DL_c (op_mv _ (rfl : _ = AV.sl _ _)) ?_
    refine DL_c (op_lenS _ inferInstance rfl) ?_
    refine DL_c (op_mv _ (rfl : _ = AV.v (.int _ _))) ?_
    refine DL_nil (hK9 _ ?_)
    clear hK9; try clear K9
    refine D_block ?_
    refine D_loopL (α := Nat) (fun v => v ≤ n ∧ ∀ u, u < v → OkP n (Ps.getD u [])) 135 [(4, _), (5, _), (27, _), (28, _)] [((24, 0), _), ((26, 0), _)] (fun v => [(29, .v (.int .i64 (v : Int))), (6, .ref (6, 0) 0 (edg Ps v 0).length)]) (fun v => [((6, 0), .row 38 2 (psl (edg Ps v 0))), ((22, 0), .row 125 1 (ul (pwL n Ps v 0)))]) [] [] (fun v => n - v) 0 ?_ (by
      refine Le.mkJ [] [] rfl ?_ ?_ trivial trivial ?_
      · exact ⟨(iV rfl), (iP rfl), (iS rfl), (iV rfl), (lvI (by first | rfl | omega | (simp; done) | (simp; omega) | assumption)), (lvRr rfl (by first | rfl | omega | (simp; done) | (simp; omega) | assumption)), trivial⟩
      · exact ⟨(obE rfl rfl rfl), (obE rfl rfl rfl), (obR rfl rfl rfl (by first | rfl | omega | (simp; done) | (simp; omega) | assumption)), (obR rfl rfl rfl (by rw [pwL_zero])), trivial⟩
      · kernel_rfl) ?_
    · exact ⟨by omega, fun u hu => by omega⟩
    intro v hv
    obtain ⟨hv, hok⟩ := hv
    refine D_seq fun K10 hK10 => ?_
    refine D_region ?_
    first
      | refine DL_c (op_lss _ _ rfl rfl (by assumption)) ?_
      | refine DL_c (op_lss _ _ rfl rfl rfl) ?_
    refine DL_nil (hK10 _ ?_)
    clear hK10; try clear K10
    refine D_seq fun K11 hK11 => ?_
    refine D_splitC rfl (fun hc30 => ?_) (fun hc30 => ?_)
    · skip
      have hvl := hm v
      have hok0 : OkP n ((Ps.getD v []).take 0) := ⟨by simp, fun p hp => by simp at hp⟩
      refine D_skip (hK11 _ ?_)
      clear hK11; try clear K11
      refine D_seq fun K12 hK12 => ?_
      refine D_block ?_
      refine D_seq fun K13 hK13 => ?_
      refine D_region ?_
      refine DL_c (op_mv _ (rfl : _ = AV.v (.int _ _))) ?_
      refine DL_c (op_ixS _ _ inferInstance rfl rfl v rfl (by omega) (by omega) (Nat.mul_one _)) ?_
      refine DL_c (op_ldF _ inferInstance rfl (by exact nrows_get _ _ (by omega)) rfl) ?_
      refine DL_c (op_as _ (rfl : _ = AV.v (.int _ _))) ?_
      first
        | refine DL_c (op_as _ (rfl : _ = AV.sl _ _)) ?_
        | refine DL_c (op_as _ (rfl : _ = AV.ref _ _ _)) ?_
        | refine DL_c (op_as _ (rfl : _ = AV.v (.slice _ _ _))) ?_
        | refine DL_c (op_as _ (rfl : _ = AV.z)) ?_
      refine DL_nil (hK13 _ ?_)
      clear hK13; try clear K13
      refine D_seq fun K14 hK14 => ?_
      refine D_region ?_
      first
        | refine DL_c (op_mv _ (rfl : _ = AV.sl _ _)) ?_
        | refine DL_c (op_mv _ (rfl : _ = AV.ref _ _ _)) ?_
        | refine DL_c (op_mv _ (rfl : _ = AV.v (.slice _ _ _))) ?_
        | refine DL_c (op_mv _ (rfl : _ = AV.z)) ?_
      first
        | refine DL_c (op_lenS _ inferInstance rfl) ?_
        | refine DL_c (op_lenR _ inferInstance rfl rfl) ?_
        | refine DL_c (op_lenN _ inferInstance rfl) ?_
        | refine DL_c (op_lenB _ inferInstance rfl rfl) ?_
        | refine DL_c (op_lenZ _ inferInstance rfl) ?_
      refine DL_c (op_mv _ (rfl : _ = AV.v (.int _ _))) ?_
      refine DL_nil (hK14 _ ?_)
      clear hK14; try clear K14
      refine D_block ?_
      refine D_loopL (α := Nat) (fun j => j ≤ (Ps.getD v []).length ∧ OkP n ((Ps.getD v []).take j)) 135 [(4, _), (5, _), (7, _), (27, _), (28, _), (29, _), (34, _), (35, _)] [((24, 0), _), ((26, 0), _)] (fun j => [(36, .v (.int .i64 (j : Int))), (6, .ref (6, 0) 0 (edg Ps v j).length)]) (fun j => [((6, 0), .row 38 2 (psl (edg Ps v j))), ((22, 0), .row 125 1 (ul (pwL n Ps v j)))]) [] [] (fun j => (Ps.getD v []).length - j) 0 ?_ (by
        refine Le.mkJ [] [] rfl ?_ ?_ trivial trivial ?_
        · exact ⟨(iV rfl), (iP rfl), (iV rfl), (iS rfl), (iV rfl), (iV rfl), (by first | exact iS rfl | exact iR rfl | exact iV rfl | exact iZ rfl | exact iD rfl), (iV rfl), (lvI (by first | rfl | omega | (first | (rw [edg_succ (by omega), List.length_append]; rfl) | (rw [edg_succ (by omega), ← psl_append]; rfl)) | (simp; done) | (simp; omega) | assumption)), (lvRr rfl (by first | rfl | omega | (first | (rw [edg_succ (by omega), List.length_append]; rfl) | (rw [edg_succ (by omega), ← psl_append]; rfl)) | (simp; done) | (simp; omega) | assumption)), trivial⟩
        · exact ⟨(obE rfl rfl rfl), (obE rfl rfl rfl), (obR rfl rfl rfl (by first | rfl | omega | (first | (rw [edg_succ (by omega), List.length_append]; rfl) | (rw [edg_succ (by omega), ← psl_append]; rfl)) | (simp; done) | (simp; omega) | assumption)), (obR rfl rfl rfl (by first | rfl | omega | (first | (rw [edg_succ (by omega), List.length_append]; rfl) | (rw [edg_succ (by omega), ← psl_append]; rfl)) | (simp; done) | (simp; omega) | assumption)), trivial⟩
        · kernel_rfl) ?_
      · exact ⟨by omega, hok0⟩
      intro j hj
      obtain ⟨hj, hoj⟩ := hj
      have hel := hedl v j
      have hvm : v * 100 ≤ 6400 := by omega
      refine D_seq fun K15 hK15 => ?_
      refine D_region ?_
      first
        | refine DL_c (op_lss _ _ rfl rfl (by assumption)) ?_
        | refine DL_c (op_lss _ _ rfl rfl rfl) ?_
      refine DL_nil (hK15 _ ?_)
      clear hK15; try clear K15
      refine D_seq fun K16 hK16 => ?_
      refine D_splitC rfl (fun hc37 => ?_) (fun hc37 => ?_)
      · skip
        have hpl := pwL_len n Ps v j
        have hpg := pwL_get (n := n) (Ps := Ps) (v := v) (j := j) (by omega)
        have hwl := pw_ok (by omega) hoj
        refine D_skip (hK16 _ ?_)
        clear hK16; try clear K16
        refine D_seq fun K17 hK17 => ?_
        refine D_block ?_
        refine D_seq fun K18 hK18 => ?_
        refine D_region ?_
        first
          | refine DL_c (op_ixS _ _ inferInstance rfl rfl _ rfl (by omega) (by first | assumption | decide | (simp only [isl_len, bsl_len, psl_len, mrows_len, nsl_len, ws_len, List.length_map, ul_len, pwL_len, asts_len, psl_len]; omega) | (simp; done) | (simp; omega) | (simp [isl, bsl]; omega)) (by first | exact Nat.mul_one _ | rfl | omega)) ?_
          | refine DL_c (op_ixS _ _ inferInstance rfl rfl (Int.toNat _) (Int.toNat_of_nonneg (by omega)).symm (by omega) (by first | assumption | decide | (simp only [isl_len, bsl_len, psl_len, mrows_len, nsl_len, ws_len, List.length_map, ul_len, pwL_len, asts_len, psl_len]; omega) | (simp; done) | (simp; omega) | (simp [isl, bsl]; omega)) (by first | exact Nat.mul_one _ | rfl | omega)) ?_
          | refine DL_c (op_ixR _ _ inferInstance rfl rfl rfl _ rfl (by omega) (by first | exact (Nat.zero_add _).trans (Nat.mul_one _) | exact Nat.zero_add _ | rfl | omega)) ?_
          | refine DL_c (op_ixR _ _ inferInstance rfl rfl rfl (Int.toNat _) (Int.toNat_of_nonneg (by omega)).symm (by omega) (by first | exact (Nat.zero_add _).trans (Nat.mul_one _) | exact Nat.zero_add _ | rfl | omega)) ?_
          | refine DL_c (op_ixB _ _ inferInstance rfl rfl rfl _ rfl (by omega) (by first | exact (Nat.zero_add _).trans (Nat.mul_one _) | exact Nat.zero_add _ | rfl | omega)) ?_
          | refine DL_c (op_ixB _ _ inferInstance rfl rfl rfl (Int.toNat _) (Int.toNat_of_nonneg (by omega)).symm (by omega) (by first | exact (Nat.zero_add _).trans (Nat.mul_one _) | exact Nat.zero_add _ | rfl | omega)) ?_
        first
          | refine DL_c (op_ldB _ inferInstance rfl rfl (rfl : _ = some (AV.v (.int _ _)))) ?_
          | refine DL_c (op_ldR _ inferInstance rfl rfl (by first | rfl | exact isl_get _ _ (by omega) | exact bsl_get _ _ (by omega) | assumption | exact isl_get _ _ (by omega) | exact nsl_get _ _ (by omega) | exact ul_get _ _ (by omega) | exact nrows_get _ _ (by omega)) rfl) ?_
          | refine DL_c (op_ldF _ inferInstance rfl (by first | rfl | exact isl_get _ _ (by omega) | exact bsl_get _ _ (by omega) | assumption | exact isl_get _ _ (by omega) | exact nsl_get _ _ (by omega) | exact ul_get _ _ (by omega) | exact nrows_get _ _ (by omega)) rfl) ?_
        refine DL_c (op_as _ (rfl : _ = AV.v (.int _ _))) ?_
        refine DL_nil (hK18 _ ?_)
        clear hK18; try clear K18
        refine D_seq fun K19 hK19 => ?_
        refine D_seq fun K20 hK20 => ?_
        refine D_region ?_
        refine DL_c (op_mv _ (rfl : _ = AV.v (.int _ _))) ?_
        first
          | refine DL_c (op_lss _ _ rfl rfl (by assumption)) ?_
          | refine DL_c (op_lss _ _ rfl rfl rfl) ?_
        refine DL_c (op_mv _ (rfl : _ = AV.v (.bool _))) ?_
        refine DL_caseC (fun hg42 => ?_) (fun hg42 => ?_)
        · skip
          have hbad : ¬ Valid Ps := fun hV => by have := (hV v (by omega)).2 _ (getD_memI (show j < (Ps.getD v []).length by omega)); omega
          refine DL_cn rfl rfl (by decide) ?_
          refine DL_cn rfl rfl (by decide) ?_
          refine DL_cn rfl rfl (by decide) ?_
          refine DL_c (op_pick _ _ _ rfl (rfl : _ = AV.v (.bool _))) ?_
          refine DL_c (op_mv _ (rfl : _ = AV.v (.bool _))) ?_
          refine DL_cn rfl rfl (by decide) ?_
          refine DL_cn rfl rfl (by decide) ?_
          refine DL_cn rfl rfl (by decide) ?_
          refine DL_cn rfl rfl (by decide) ?_
          refine DL_cn rfl rfl (by decide) ?_
          refine DL_cn rfl rfl (by decide) ?_
          refine DL_cn rfl rfl (by decide) ?_
          refine DL_cn rfl rfl (by decide) ?_
          refine DL_cn rfl rfl (by decide) ?_
          refine DL_c (op_pick _ _ _ rfl (rfl : _ = AV.v (.bool _))) ?_
          refine DL_nil (hK20 _ ?_)
          clear hK20; try clear K20
          refine D_cT rfl rfl ?_
          refine D_seq fun K21 hK21 => ?_
          refine D_le (σ' := mkStI 135 [] [] [] []) (by
            refine Le.mkJ [] [] rfl ?_ ?_ trivial trivial ?_
            · exact trivial
            · exact trivial
            · kernel_rfl) ?_
          refine D_region ?_
          refine DL_c (op_as _ (rfl : _ = AV.v _)) ?_
          refine DL_c (op_as _ (rfl : _ = AV.v (.int _ _))) ?_
          refine DL_nil (hK21 _ ?_)
          clear hK21; try clear K21
          refine D_ret ?_
          rw [newV_arg (by omega) hbad]
          exact ret2 (.inr rfl) rfl (.tmp (rfl : _ = AV.v _)) (.tmp (rfl : _ = AV.v _)) (Le.out [] [] (.tup rfl (lv_cons .v (lv_cons .v lv_nil))) rfl rfl rfl trivial trivial)
        · skip
          refine DL_cy rfl rfl (op_mv _ (rfl : _ = AV.v (.int _ _))) ?_
          refine DL_cy rfl rfl (op_mv _ (rfl : _ = AV.v (.int _ _))) ?_
          first
            | refine DL_cy rfl rfl (op_geq _ _ rfl rfl (by assumption)) ?_
            | refine DL_cy rfl rfl (op_geq _ _ rfl rfl rfl) ?_
          refine DL_c (op_pick _ _ _ rfl (rfl : _ = AV.v (.bool _))) ?_
          refine DL_c (op_mv _ (rfl : _ = AV.v (.bool _))) ?_
          refine DL_caseC (fun hg47 => ?_) (fun hg47 => ?_)
          · skip
            have hbad : ¬ Valid Ps := fun hV => by have := (hV v (by omega)).2 _ (getD_memI (show j < (Ps.getD v []).length by omega)); omega
            refine DL_cn rfl rfl (by decide) ?_
            refine DL_cn rfl rfl (by decide) ?_
            refine DL_cn rfl rfl (by decide) ?_
            refine DL_cn rfl rfl (by decide) ?_
            refine DL_cn rfl rfl (by decide) ?_
            refine DL_cn rfl rfl (by decide) ?_
            refine DL_cn rfl rfl (by decide) ?_
            refine DL_cn rfl rfl (by decide) ?_
            refine DL_cn rfl rfl (by decide) ?_
            refine DL_c (op_pick _ _ _ rfl (rfl : _ = AV.v (.bool _))) ?_
            refine DL_nil (hK20 _ ?_)
            clear hK20; try clear K20
            refine D_cT rfl rfl ?_
            refine D_seq fun K22 hK22 => ?_
            refine D_le (σ' := mkStI 135 [] [] [] []) (by
              refine Le.mkJ [] [] rfl ?_ ?_ trivial trivial ?_
              · exact trivial
              · exact trivial
              · kernel_rfl) ?_
            refine D_region ?_
            refine DL_c (op_as _ (rfl : _ = AV.v _)) ?_
            refine DL_c (op_as _ (rfl : _ = AV.v (.int _ _))) ?_
            refine DL_nil (hK22 _ ?_)
            clear hK22; try clear K22
            refine D_ret ?_
            rw [newV_arg (by omega) hbad]
            exact ret2 (.inr rfl) rfl (.tmp (rfl : _ = AV.v _)) (.tmp (rfl : _ = AV.v _)) (Le.out [] [] (.tup rfl (lv_cons .v (lv_cons .v lv_nil))) rfl rfl rfl trivial trivial)
          · skip
            obtain ⟨b, hbe⟩ := Int.eq_ofNat_of_zero_le hg42
            have hbit := pw_bit b ((Ps.getD v []).take j) fun p hp => (hoj.2 p hp).1
            refine DL_cy rfl rfl (op_mv _ (rfl : _ = AV.ptr _ _)) ?_
            refine DL_cy rfl rfl (op_nilp _ rfl rfl) ?_
            first
              | refine DL_cy rfl rfl (op_fldP _ inferInstance rfl rfl rfl) ?_
              | refine DL_cy rfl rfl (op_fldF _ inferInstance rfl rfl) ?_
            first
              | refine DL_cy rfl rfl (op_ldB _ inferInstance rfl rfl (rfl : _ = some (AV.ref _ _ _))) ?_
              | refine DL_cy rfl rfl (op_ldR _ inferInstance rfl rfl (by first | rfl | exact isl_get _ _ (by omega) | exact bsl_get _ _ (by omega) | assumption | exact isl_get _ _ (by omega) | exact nsl_get _ _ (by omega) | exact ul_get _ _ (by omega) | exact nrows_get _ _ (by omega)) rfl) ?_
            refine DL_cy rfl rfl (op_mv _ (rfl : _ = AV.v (.int _ _))) ?_
            refine DL_cy rfl rfl (op_ixR _ _ inferInstance rfl rfl rfl v rfl (by omega) (by exact (Nat.zero_add _).trans (Nat.mul_one _))) ?_
            refine DL_cy rfl rfl (op_ldR _ inferInstance rfl rfl (by exact (ul_get _ _ (by omega)).trans (by rw [hpg])) rfl) ?_
            refine DL_cy rfl rfl (op_mv _ (rfl : _ = AV.v (.int _ _))) ?_
            refine DL_cy rfl rfl (op_callH inferInstance (by repeat' (first | exact argsLv_nil | refine argsLv_cons ?_ ?_ | exact Lv.v | exact lvI (by omega) | exact Lv.sl | exact Lv.fp | exact Lv.nil | refine Lv.agg rfl ?_ | refine Lv.fn rfl ?_ rfl ?_ | exact lv_nil | refine lv_cons ?_ ?_ | exact Lv.z0)) (vhas_spec (pw ((Ps.getD v []).take j)) b hwl (by omega)) rfl rfl) ?_
            refine DL_c (op_pick _ _ _ rfl (rfl : _ = AV.v (.bool _))) ?_
            refine DL_nil (hK20 _ ?_)
            clear hK20; try clear K20
            refine D_splitC rfl (fun hc57 => ?_) (fun hc57 => ?_)
            · skip
              have hbad : ¬ Valid Ps := fun hV => by
                have h1 := (hV v (by omega)).1
                rw [hbit, decide_eq_true_eq, ← hbe] at hc57
                rw [← List.take_append_drop j (Ps.getD v []), List.nodup_append, drop1 (by omega)] at h1
                exact h1.2.2 _ hc57 _ List.mem_cons_self rfl
              refine D_seq fun K23 hK23 => ?_
              refine D_le (σ' := mkStI 135 [] [] [] []) (by
                refine Le.mkJ [] [] rfl ?_ ?_ trivial trivial ?_
                · exact trivial
                · exact trivial
                · kernel_rfl) ?_
              refine D_region ?_
              refine DL_c (op_as _ (rfl : _ = AV.v _)) ?_
              refine DL_c (op_as _ (rfl : _ = AV.v (.int _ _))) ?_
              refine DL_nil (hK23 _ ?_)
              clear hK23; try clear K23
              refine D_ret ?_
              rw [newV_arg (by omega) hbad]
              exact ret2 (.inr rfl) rfl (.tmp (rfl : _ = AV.v _)) (.tmp (rfl : _ = AV.v _)) (Le.out [] [] (.tup rfl (lv_cons .v (lv_cons .v lv_nil))) rfl rfl rfl trivial trivial)
            · skip
              rw [hbit, decide_eq_false_iff_not, ← hbe] at hc57
              refine D_skip (hK19 _ ?_)
              clear hK19; try clear K19
              refine D_seq fun K24 hK24 => ?_
              refine D_le (σ' := mkStI 135 [(4, _), (5, _), (6, _), (7, _), (10, _), (27, _), (28, _), (29, _), (34, _), (35, _), (36, _)] [((24, 0), _), ((26, 0), _), ((6, 0), _), ((22, 0), _)] [] []) (by
                refine Le.mkJ [] [] rfl ?_ ?_ trivial trivial ?_
                · exact ⟨(iV rfl), (iP rfl), (iR rfl), (iV rfl), (iV rfl), (iS rfl), (iV rfl), (iV rfl), (by first | exact iS rfl | exact iR rfl | exact iV rfl | exact iZ rfl | exact iD rfl), (iV rfl), (iV rfl), trivial⟩
                · exact ⟨(obE rfl rfl rfl), (obE rfl rfl rfl), (obE rfl rfl rfl), (obE rfl rfl rfl), trivial⟩
                · kernel_rfl) ?_
              refine D_anyL 15 [58, 59, 60, 61, 62, 63, 64, 65, 66, 67, 68, 69, 70, 71, 72] [] (by kernel_rfl) (by kernel_rfl) rfl (nodupO_iff rfl) (rfl : _ = [_, _, _, _, _, _, _, _, _, _, _, _, _, _, _]) (rfl : _ = [_]) ?_
              refine any_c (_, []) (fun τ => op_mv _ (rfl : _ = AV.ptr _ _)) ?_
              refine any_n (rfl : _ = [_]) ?_
              refine any_c (_, []) (fun τ => op_nilp _ rfl rfl) ?_
              refine any_n (rfl : _ = [_, _]) ?_
              first
                | refine any_c (_, []) (fun τ => op_fldP _ inferInstance rfl rfl rfl) ?_
                | refine any_c (_, []) (fun τ => op_fldF _ inferInstance rfl rfl) ?_
              refine any_n (rfl : _ = [_, _, _]) ?_
              first
                | refine any_c (_, []) (fun τ => op_ldB _ inferInstance rfl rfl (rfl : _ = some (AV.ref _ _ _))) ?_
                | refine any_c (_, []) (fun τ => op_ldR _ inferInstance rfl rfl (by first | rfl | exact isl_get _ _ (by omega) | exact bsl_get _ _ (by omega) | assumption | exact isl_get _ _ (by omega) | exact nsl_get _ _ (by omega) | exact ul_get _ _ (by omega) | exact nrows_get _ _ (by omega)) rfl) ?_
              refine any_n (rfl : _ = [_, _, _, _]) ?_
              refine any_c (_, []) (fun τ => op_mv _ (rfl : _ = AV.v (.int _ _))) ?_
              refine any_n (rfl : _ = [_, _, _, _, _]) ?_
              refine any_c (_, []) (fun τ => op_mv _ (rfl : _ = AV.ptr _ _)) ?_
              refine any_n (rfl : _ = [_, _, _, _, _, _]) ?_
              refine any_c (_, []) (fun τ => op_nilp _ rfl rfl) ?_
              refine any_n (rfl : _ = [_, _, _, _, _, _, _]) ?_
              first
                | refine any_c (_, []) (fun τ => op_fldP _ inferInstance rfl rfl rfl) ?_
                | refine any_c (_, []) (fun τ => op_fldF _ inferInstance rfl rfl) ?_
              refine any_n (rfl : _ = [_, _, _, _, _, _, _, _]) ?_
              first
                | refine any_c (_, []) (fun τ => op_ldB _ inferInstance rfl rfl (rfl : _ = some (AV.ref _ _ _))) ?_
                | refine any_c (_, []) (fun τ => op_ldR _ inferInstance rfl rfl (by first | rfl | exact isl_get _ _ (by omega) | exact bsl_get _ _ (by omega) | assumption | exact isl_get _ _ (by omega) | exact nsl_get _ _ (by omega) | exact ul_get _ _ (by omega) | exact nrows_get _ _ (by omega)) rfl) ?_
              refine any_n (rfl : _ = [_, _, _, _, _, _, _, _, _]) ?_
              refine any_c (_, []) (fun τ => op_mv _ (rfl : _ = AV.v (.int _ _))) ?_
              refine any_n (rfl : _ = [_, _, _, _, _, _, _, _, _, _]) ?_
              refine any_c (_, []) (fun τ => op_ixR _ _ inferInstance rfl rfl rfl v rfl (by omega) (by exact (Nat.zero_add _).trans (Nat.mul_one _))) ?_
              refine any_n (rfl : _ = [_, _, _, _, _, _, _, _, _, _, _]) ?_
              refine any_c (_, []) (fun τ => op_ldR _ inferInstance rfl rfl (by exact (ul_get _ _ (by omega)).trans (by rw [hpg])) rfl) ?_
              refine any_n (rfl : _ = [_, _, _, _, _, _, _, _, _, _, _, _]) ?_
              refine any_c (_, []) (fun τ => op_mv _ (rfl : _ = AV.v (.int _ _))) ?_
              refine any_n (rfl : _ = [_, _, _, _, _, _, _, _, _, _, _, _, _]) ?_
              refine any_c (_, []) (fun τ => (op_callH inferInstance (by repeat' (first | exact argsLv_nil | refine argsLv_cons ?_ ?_ | exact Lv.v | exact lvI (by omega) | exact Lv.sl | exact Lv.fp | exact Lv.nil | refine Lv.agg rfl ?_ | refine Lv.fn rfl ?_ rfl ?_ | exact lv_nil | refine lv_cons ?_ ?_ | exact Lv.z0)) (with_spec (pw ((Ps.getD v []).take j)) b hwl (by omega)) rfl rfl)) ?_
              refine any_n (rfl : _ = [_, _, _, _, _, _, _, _, _, _, _, _, _, _]) ?_
              refine any_c (_, []) (fun τ => op_ixR _ _ inferInstance rfl rfl rfl v rfl (by omega) (by exact (Nat.zero_add _).trans (Nat.mul_one _))) ?_
              refine any_n (rfl : _ = [_, _, _, _, _, _, _, _, _, _, _, _, _, _, _]) ?_
              refine any_end ⟨rfl, ?_⟩
              refine DL_c (op_stR _ _ inferInstance rfl rfl rfl rfl rfl (by simp; omega) (ul_put _ _ _ (by omega))) ?_
              refine DL_nil (hK24 _ ?_)
              clear hK24; try clear K24
              refine D_le (σ' := mkStI 135 [(4, _), (5, _), (6, _), (7, _), (10, _), (27, _), (28, _), (29, _), (34, _), (35, _), (36, _)] [((24, 0), _), ((26, 0), _), ((6, 0), _), ((22, 0), _)] [] []) (by
                refine Le.mkJ [] [] rfl ?_ ?_ trivial trivial ?_
                · exact ⟨(iV rfl), (iP rfl), (iR rfl), (iV rfl), (iV rfl), (iS rfl), (iV rfl), (iV rfl), (by first | exact iS rfl | exact iR rfl | exact iV rfl | exact iZ rfl | exact iD rfl), (iV rfl), (iV rfl), trivial⟩
                · exact ⟨(obE rfl rfl rfl), (obE rfl rfl rfl), (obE rfl rfl rfl), (obE rfl rfl rfl), trivial⟩
                · kernel_rfl) ?_
              refine D_region ?_
              refine DL_c (op_mv _ (rfl : _ = AV.ref _ _ _)) ?_
              refine DL_c (op_mv _ (rfl : _ = AV.v (.int _ _))) ?_
              refine DL_c (op_mv _ (rfl : _ = AV.v (.int _ _))) ?_
              refine DL_c (op_build _ inferInstance rfl (by exact (rfl : _ = some [_, _]))) ?_
              refine DL_c (op_bsF _ _ inferInstance rfl (by rfl) (by simp <;> rfl) (by decide) rfl) ?_
              refine DL_c (op_ap (78, 0) _ _ inferInstance rfl rfl (by first | rfl | omega | (simp only [isl_len, bsl_len, psl_len, mrows_len, nsl_len, ws_len, List.length_map, ul_len, pwL_len, asts_len, psl_len]; omega) | (simp; done) | (simp; omega)) (by first | exact .nil | (refine .sl ?_; first | (simp [isl]; done) | (simp [isl]; omega)) | (refine .ref rfl rfl ?_; first | (simp; done) | (simp; omega))) (by omega) rfl (rfl) (rfl)) ?_
              refine DL_c (op_as _ (rfl : _ = AV.ref _ _ _)) ?_
              refine DL_nil (hK17 _ ?_)
              clear hK17; try clear K17
              refine D_region ?_
              first
                | refine DL_c (op_add _ _ rfl rfl (i64w (by omega))) ?_
                | refine DL_c (op_add _ _ rfl rfl rfl) ?_
              refine DL_c (op_mv _ (rfl : _ = AV.v (.int _ _))) ?_
              refine DL_nil ?_
              refine ⟨j + 1, ?_, ?_, ?_⟩
              · exact ⟨by omega, by rw [take1 0 (by omega)]; exact okp_snoc hoj (by omega) (by omega) hc57⟩
              · skip
                refine Le.mkJ [((6, 0), (78, 0))] [] rfl ?_ ?_ trivial trivial ?_
                · exact ⟨(by repeat' (first | exact Lv.v | exact Lv.sl | exact Lv.fp | exact lvRr (id := (24, 0)) rfl rfl | exact lvPr (id := (24, 0)) rfl | exact lvRr (id := (26, 0)) rfl rfl | exact lvPr (id := (26, 0)) rfl | exact lvRr (id := (22, 0)) rfl rfl | exact lvPr (id := (22, 0)) rfl | exact lvRr (id := (6, 0)) rfl rfl | exact lvPr (id := (6, 0)) rfl | exact lvRr rfl rfl | exact lvPr rfl | exact Lv.mp | exact Lv.nil | exact Lv.z | exact Lv.dead | refine Lv.agg rfl ?_ | refine Lv.fn rfl ?_ rfl ?_ | refine Lv.tup rfl ?_ | refine Lv.ifc ?_ | exact lv_nil | refine lv_cons ?_ ?_)), (lvPr (id := (26, 0)) rfl), (by repeat' (first | exact Lv.v | exact Lv.sl | exact Lv.fp | exact lvRr (id := (24, 0)) rfl rfl | exact lvPr (id := (24, 0)) rfl | exact lvRr (id := (26, 0)) rfl rfl | exact lvPr (id := (26, 0)) rfl | exact lvRr (id := (22, 0)) rfl rfl | exact lvPr (id := (22, 0)) rfl | exact lvRr (id := (6, 0)) rfl rfl | exact lvPr (id := (6, 0)) rfl | exact lvRr rfl rfl | exact lvPr rfl | exact Lv.mp | exact Lv.nil | exact Lv.z | exact Lv.dead | refine Lv.agg rfl ?_ | refine Lv.fn rfl ?_ rfl ?_ | refine Lv.tup rfl ?_ | refine Lv.ifc ?_ | exact lv_nil | refine lv_cons ?_ ?_)), (by repeat' (first | exact Lv.v | exact Lv.sl | exact Lv.fp | exact lvRr (id := (24, 0)) rfl rfl | exact lvPr (id := (24, 0)) rfl | exact lvRr (id := (26, 0)) rfl rfl | exact lvPr (id := (26, 0)) rfl | exact lvRr (id := (22, 0)) rfl rfl | exact lvPr (id := (22, 0)) rfl | exact lvRr (id := (6, 0)) rfl rfl | exact lvPr (id := (6, 0)) rfl | exact lvRr rfl rfl | exact lvPr rfl | exact Lv.mp | exact Lv.nil | exact Lv.z | exact Lv.dead | refine Lv.agg rfl ?_ | refine Lv.fn rfl ?_ rfl ?_ | refine Lv.tup rfl ?_ | refine Lv.ifc ?_ | exact lv_nil | refine lv_cons ?_ ?_)), (by repeat' (first | exact Lv.v | exact Lv.sl | exact Lv.fp | exact lvRr (id := (24, 0)) rfl rfl | exact lvPr (id := (24, 0)) rfl | exact lvRr (id := (26, 0)) rfl rfl | exact lvPr (id := (26, 0)) rfl | exact lvRr (id := (22, 0)) rfl rfl | exact lvPr (id := (22, 0)) rfl | exact lvRr (id := (6, 0)) rfl rfl | exact lvPr (id := (6, 0)) rfl | exact lvRr rfl rfl | exact lvPr rfl | exact Lv.mp | exact Lv.nil | exact Lv.z | exact Lv.dead | refine Lv.agg rfl ?_ | refine Lv.fn rfl ?_ rfl ?_ | refine Lv.tup rfl ?_ | refine Lv.ifc ?_ | exact lv_nil | refine lv_cons ?_ ?_)), (by repeat' (first | exact Lv.v | exact Lv.sl | exact Lv.fp | exact lvRr (id := (24, 0)) rfl rfl | exact lvPr (id := (24, 0)) rfl | exact lvRr (id := (26, 0)) rfl rfl | exact lvPr (id := (26, 0)) rfl | exact lvRr (id := (22, 0)) rfl rfl | exact lvPr (id := (22, 0)) rfl | exact lvRr (id := (6, 0)) rfl rfl | exact lvPr (id := (6, 0)) rfl | exact lvRr rfl rfl | exact lvPr rfl | exact Lv.mp | exact Lv.nil | exact Lv.z | exact Lv.dead | refine Lv.agg rfl ?_ | refine Lv.fn rfl ?_ rfl ?_ | refine Lv.tup rfl ?_ | refine Lv.ifc ?_ | exact lv_nil | refine lv_cons ?_ ?_)), (by repeat' (first | exact Lv.v | exact Lv.sl | exact Lv.fp | exact lvRr (id := (24, 0)) rfl rfl | exact lvPr (id := (24, 0)) rfl | exact lvRr (id := (26, 0)) rfl rfl | exact lvPr (id := (26, 0)) rfl | exact lvRr (id := (22, 0)) rfl rfl | exact lvPr (id := (22, 0)) rfl | exact lvRr (id := (6, 0)) rfl rfl | exact lvPr (id := (6, 0)) rfl | exact lvRr rfl rfl | exact lvPr rfl | exact Lv.mp | exact Lv.nil | exact Lv.z | exact Lv.dead | refine Lv.agg rfl ?_ | refine Lv.fn rfl ?_ rfl ?_ | refine Lv.tup rfl ?_ | refine Lv.ifc ?_ | exact lv_nil | refine lv_cons ?_ ?_)), (by repeat' (first | exact Lv.v | exact Lv.sl | exact Lv.fp | exact lvRr (id := (24, 0)) rfl rfl | exact lvPr (id := (24, 0)) rfl | exact lvRr (id := (26, 0)) rfl rfl | exact lvPr (id := (26, 0)) rfl | exact lvRr (id := (22, 0)) rfl rfl | exact lvPr (id := (22, 0)) rfl | exact lvRr (id := (6, 0)) rfl rfl | exact lvPr (id := (6, 0)) rfl | exact lvRr rfl rfl | exact lvPr rfl | exact Lv.mp | exact Lv.nil | exact Lv.z | exact Lv.dead | refine Lv.agg rfl ?_ | refine Lv.fn rfl ?_ rfl ?_ | refine Lv.tup rfl ?_ | refine Lv.ifc ?_ | exact lv_nil | refine lv_cons ?_ ?_)), (lvI (by first | rfl | omega | (first | (rw [edg_succ (by omega), List.length_append]; rfl) | (rw [edg_succ (by omega), ← psl_append]; rfl)) | (simp; done) | (simp; omega) | assumption)), (lvRr rfl (by first | rfl | omega | (first | (rw [edg_succ (by omega), List.length_append]; rfl) | (rw [edg_succ (by omega), ← psl_append]; rfl)) | (simp; done) | (simp; omega) | assumption)), trivial⟩
                · exact ⟨(obR rfl rfl rfl rfl), (obB rfl rfl rfl rfl (by repeat' (first | exact Lv.v | exact Lv.sl | exact Lv.fp | exact lvRr (id := (24, 0)) rfl rfl | exact lvPr (id := (24, 0)) rfl | exact lvRr (id := (26, 0)) rfl rfl | exact lvPr (id := (26, 0)) rfl | exact lvRr (id := (22, 0)) rfl rfl | exact lvPr (id := (22, 0)) rfl | exact lvRr (id := (6, 0)) rfl rfl | exact lvPr (id := (6, 0)) rfl | exact lvRr rfl rfl | exact lvPr rfl | exact Lv.mp | exact Lv.nil | exact Lv.z | exact Lv.dead | refine Lv.agg rfl ?_ | refine Lv.fn rfl ?_ rfl ?_ | refine Lv.tup rfl ?_ | refine Lv.ifc ?_ | exact lv_nil | refine lv_cons ?_ ?_))), (obR rfl rfl rfl (by first | rfl | omega | (first | (rw [edg_succ (by omega), List.length_append]; rfl) | (rw [edg_succ (by omega), ← psl_append]; rfl)) | (simp; done) | (simp; omega) | assumption)), (obR rfl rfl rfl (by rw [pwL_succ (by omega) hbe])), trivial⟩
                · kernel_rfl
              · omega
      · skip
        have hjl : j = (Ps.getD v []).length := by omega
        have hokv : OkP n (Ps.getD v []) := by
          have := hoj
          rw [hjl, List.take_length] at this
          exact this
        refine D_exit ?_
        refine id (hK12 _ ?_)
        clear hK12; try clear K12
        refine D_region ?_
        first
          | refine DL_c (op_add _ _ rfl rfl (i64w (by omega))) ?_
          | refine DL_c (op_add _ _ rfl rfl rfl) ?_
        refine DL_c (op_mv _ (rfl : _ = AV.v (.int _ _))) ?_
        refine DL_nil ?_
        refine ⟨v + 1, ?_, ?_, ?_⟩
        · exact ⟨by omega, fun u hu => by
            by_cases h : u < v
            · exact hok u h
            · have : u = v := by omega
              subst this; exact hokv⟩
        · skip
          refine Le.mkJ [] [] rfl ?_ ?_ trivial trivial ?_
          · exact ⟨(iV rfl), (iP rfl), (iS rfl), (iV rfl), (lvI (by first | rfl | omega | (simp; done) | (simp; omega) | assumption)), (lvRr rfl (by rw [hjl, edg_next])), trivial⟩
          · exact ⟨(obE rfl rfl rfl), (obE rfl rfl rfl), (obR rfl rfl rfl (by rw [hjl, edg_next])), (obR rfl rfl rfl (by rw [hjl, pwL_next])), trivial⟩
          · kernel_rfl
        · omega
    · skip
      obtain rfl : v = n := by omega
      have hV : Valid Ps := fun u hu => by rw [hPs] at hu ⊢; exact hok u hu
      have hE : inE v (edg Ps v 0) = true := hPs ▸ edg_in hV
      have hel := hedl v 0
      have hT := topo_spec v (by omega) _ (edg Ps v 0) rfl (by omega) hE fun a ha => ⟨hS hV (by omega) a ha, nxt_edg_nodup (fun u hu => (hok u hu).1) a⟩
      have hse := nxS_se hE
      have hpsl : (psl (edg Ps v 0)).length = (edg Ps v 0).length * 2 := by rw [psl_len]; omega
      have hTA : (kahn v (nxS v (edg Ps v 0)) v []).length < v → Spec Try.prog 54 (inSt [.v (.int .i64 (v : Int)), .sl (edg Ps v 0).length (psl (edg Ps v 0))] []) (outSt (.tup [.v (.slice none 0 0), .v (.bool false)]) []) := fun hkl => by
        rw [show topoR v (nxS v (edg Ps v 0)) = .tup [.v (.slice none 0 0), .v (.bool false)] from if_pos hkl] at hT; exact hT
      have hTB : ¬ (kahn v (nxS v (edg Ps v 0)) v []).length < v → Spec Try.prog 54 (inSt [.v (.int .i64 (v : Int)), .sl (edg Ps v 0).length (psl (edg Ps v 0))] []) (outSt (.tup [.sl v (isl ((kahn v (nxS v (edg Ps v 0)) v []).map fun (x : Nat) => (x : Int))), .v (.bool true)]) []) := fun hkl => by
        rw [show topoR v (nxS v (edg Ps v 0)) = .tup [.sl v (isl ((kahn v (nxS v (edg Ps v 0)) v []).map fun (x : Nat) => (x : Int))), .v (.bool true)] from if_neg hkl] at hT; exact hT
      have hKO := kahn_ko (n := v) (S := nxS v (edg Ps v 0)) v [] (KO.nil v _)
      have hKL := nodup_le v _ hKO.nd hKO.lt
      have hpE := fun (u : Nat) (hu : u < v) (p : Nat) => hPs ▸ parE_mem hV (by omega) (hPs ▸ hu) p
      refine D_exit ?_
      refine id (hK8 _ ?_)
      clear hK8; try clear K8
      refine D_seq fun K25 hK25 => ?_
      rcases Classical.em ((kahn v (nxS v (edg Ps v 0)) v []).length < v) with hkl | hkl
      · skip
        refine D_le (Le.frzS (ys := psl (edg Ps v 0)) 6 rfl rfl rfl (by rw [List.drop_zero]; exact List.take_of_length_le (by omega)) (by omega)) ?_
        refine D_region ?_
        refine DL_c (op_mv _ (rfl : _ = AV.v (.int _ _))) ?_
        refine DL_c (op_mv _ (rfl : _ = AV.sl _ _)) ?_
        refine DL_c (op_callH inferInstance (by repeat' (first | exact argsLv_nil | refine argsLv_cons ?_ ?_ | exact Lv.v | exact lvI (by omega) | exact Lv.sl | exact Lv.fp | exact Lv.nil | refine Lv.agg rfl ?_ | refine Lv.fn rfl ?_ rfl ?_ | exact lv_nil | refine lv_cons ?_ ?_ | exact Lv.z0)) (hTA hkl) rfl rfl) ?_
        refine DL_c (op_mv _ (rfl : _ = AV.tup _)) ?_
        first
          | refine DL_c (op_ext _ rfl (rfl : _ = some (AV.sl _ _))) ?_
          | refine DL_c (op_ext _ rfl (rfl : _ = some (AV.ref _ _ _))) ?_
          | refine DL_c (op_ext _ rfl (rfl : _ = some (AV.v (.slice _ _ _)))) ?_
          | refine DL_c (op_ext _ rfl (rfl : _ = some (AV.z))) ?_
        refine DL_c (op_ext _ rfl (rfl : _ = some (AV.v (.bool _)))) ?_
        first
          | refine DL_c (op_as _ (rfl : _ = AV.sl _ _)) ?_
          | refine DL_c (op_as _ (rfl : _ = AV.ref _ _ _)) ?_
          | refine DL_c (op_as _ (rfl : _ = AV.v (.slice _ _ _))) ?_
          | refine DL_c (op_as _ (rfl : _ = AV.z)) ?_
        refine DL_c (op_as _ (rfl : _ = AV.v (.bool _))) ?_
        refine DL_nil (hK25 _ ?_)
        clear hK25; try clear K25
        refine D_seq fun K26 hK26 => ?_
        refine D_seq fun K27 hK27 => ?_
        refine D_region ?_
        refine DL_c (op_mv _ (rfl : _ = AV.v (.bool _))) ?_
        refine DL_c (op_not _ rfl rfl) ?_
        refine DL_nil (hK27 _ ?_)
        clear hK27; try clear K27
        refine D_cT rfl rfl ?_
        refine D_seq fun K28 hK28 => ?_
        refine D_region ?_
        refine DL_c (op_as _ (rfl : _ = AV.v _)) ?_
        refine DL_c (op_as _ (rfl : _ = AV.v (.int _ _))) ?_
        refine DL_nil (hK28 _ ?_)
        clear hK28; try clear K28
        refine D_ret ?_
        rw [newV_cyc (by omega) hV (by rw [hPs]; exact topo_cyc hse hkl)]
        exact ret2 (.inr rfl) rfl (.tmp (rfl : _ = AV.v _)) (.tmp (rfl : _ = AV.v _)) (Le.out [] [] (.tup rfl (lv_cons .v (lv_cons .v lv_nil))) rfl rfl rfl trivial trivial)
      · skip
        refine D_le (Le.frzS (ys := psl (edg Ps v 0)) 6 rfl rfl rfl (by rw [List.drop_zero]; exact List.take_of_length_le (by omega)) (by omega)) ?_
        refine D_region ?_
        refine DL_c (op_mv _ (rfl : _ = AV.v (.int _ _))) ?_
        refine DL_c (op_mv _ (rfl : _ = AV.sl _ _)) ?_
        refine DL_c (op_callH inferInstance (by repeat' (first | exact argsLv_nil | refine argsLv_cons ?_ ?_ | exact Lv.v | exact lvI (by omega) | exact Lv.sl | exact Lv.fp | exact Lv.nil | refine Lv.agg rfl ?_ | refine Lv.fn rfl ?_ rfl ?_ | exact lv_nil | refine lv_cons ?_ ?_ | exact Lv.z0)) (hTB hkl) rfl rfl) ?_
        refine DL_c (op_mv _ (rfl : _ = AV.tup _)) ?_
        first
          | refine DL_c (op_ext _ rfl (rfl : _ = some (AV.sl _ _))) ?_
          | refine DL_c (op_ext _ rfl (rfl : _ = some (AV.ref _ _ _))) ?_
          | refine DL_c (op_ext _ rfl (rfl : _ = some (AV.v (.slice _ _ _)))) ?_
          | refine DL_c (op_ext _ rfl (rfl : _ = some (AV.z))) ?_
        refine DL_c (op_ext _ rfl (rfl : _ = some (AV.v (.bool _)))) ?_
        refine DL_c (op_as _ (rfl : _ = AV.sl _ _)) ?_
        refine DL_c (op_as _ (rfl : _ = AV.v (.bool _))) ?_
        refine DL_nil (hK25 _ ?_)
        clear hK25; try clear K25
        refine D_seq fun K29 hK29 => ?_
        refine D_seq fun K30 hK30 => ?_
        refine D_region ?_
        refine DL_c (op_mv _ (rfl : _ = AV.v (.bool _))) ?_
        refine DL_c (op_not _ rfl rfl) ?_
        refine DL_nil (hK30 _ ?_)
        clear hK30; try clear K30
        refine D_cF rfl rfl ?_
        refine D_skip (hK29 _ ?_)
        clear hK29; try clear K29
        refine D_seq fun K31 hK31 => ?_
        refine D_seq fun K32 hK32 => ?_
        rcases topo_ok hse hkl with hnc
        · skip
          have hall := asts_all hse hkl hpE
          generalize hOe : kahn v (nxS v (edg Ps v 0)) v [] = O at hKO hKL hkl hall ⊢
          have hOl : O.length = v := by omega
          have hOc : (O.map fun (x : Nat) => (x : Int)).length = v := by simp [hOl]
          have hprl := pwL_len v Ps v 0
          refine D_region ?_
          refine DL_c (op_mv _ (rfl : _ = AV.sl _ _)) ?_
          refine DL_c (op_lenS _ inferInstance rfl) ?_
          refine DL_c (op_mv _ (rfl : _ = AV.v (.int _ _))) ?_
          refine DL_nil (hK32 _ ?_)
          clear hK32; try clear K32
          refine D_block ?_
          refine D_loopL (α := Nat) (fun k => k ≤ v) 135 [(5, _), (89, _), (90, _)] [((26, 0), _), ((22, 0), _)] (fun k => [(91, .v (.int .i64 (k : Int)))]) (fun k => [((24, 0), .row 125 1 (ul (asts v (parE Ps) (O.take k))))]) [] [] (fun k => v - k) 0 ?_ (by
            refine Le.mkJ [] [] rfl ?_ ?_ trivial trivial ?_
            · exact ⟨(iP rfl), (iS rfl), (iV rfl), (lvI (by first | rfl | omega | (simp; done) | (simp; omega) | assumption)), trivial⟩
            · exact ⟨(obE rfl rfl rfl), (obE rfl rfl rfl), (obR rfl rfl rfl (by rw [List.take_zero, asts_nil])), trivial⟩
            · kernel_rfl) ?_
          · first | omega | trivial | exact ⟨by omega, by omega⟩
          intro k hk
          refine D_seq fun K33 hK33 => ?_
          refine D_region ?_
          first
            | refine DL_c (op_lss _ _ rfl rfl (by assumption)) ?_
            | refine DL_c (op_lss _ _ rfl rfl rfl) ?_
          refine DL_nil (hK33 _ ?_)
          clear hK33; try clear K33
          refine D_seq fun K34 hK34 => ?_
          refine D_splitC rfl (fun hc92 => ?_) (fun hc92 => ?_)
          · skip
            obtain ⟨a, ha⟩ : ∃ a, a = O.getD k 0 := ⟨_, rfl⟩
            have hca := cast_get (l := O) (k := k)
            rw [← ha] at hca
            have haO : a ∈ O := ha ▸ getD_mem (by omega)
            have han := hKO.lt a haO
            have hoa := hok a han
            have hpa := pwL_getF (n := v) (Ps := Ps) (v := v) (j := 0) han han
            have hwa := pw_ok (by omega) hoa
            have hLa : Spec Try.prog 99 (inSt [.v (.int .u64 ((pw (Ps.getD a []) : Nat) : Int))] []) (outSt (.sl (parE Ps a).length (nsl (parE Ps a))) []) := list_spec _ hwa
            have hpel : (parE Ps a).length ≤ 64 := els_len _
            have hal := asts_len v (parE Ps) (O.take k)
            have hat := asts_lt v (parE Ps) (O.take k) fun x hx => by have := hKO.lt x (List.mem_of_mem_take hx); omega
            have hts : asts v (parE Ps) (O.take (k + 1)) = astp (parE Ps) (asts v (parE Ps) (O.take k)) a := by rw [take1 0 (by omega), ← ha, asts_snoc]
            refine D_skip (hK34 _ ?_)
            clear hK34; try clear K34
            refine D_seq fun K35 hK35 => ?_
            refine D_block ?_
            refine D_seq fun K36 hK36 => ?_
            refine D_region ?_
            first
              | refine DL_c (op_ixS _ _ inferInstance rfl rfl _ rfl (by omega) (by first | assumption | decide | (simp only [isl_len, bsl_len, psl_len, mrows_len, nsl_len, ws_len, List.length_map, ul_len, pwL_len, asts_len, psl_len]; omega) | (simp; done) | (simp; omega) | (simp [isl, bsl]; omega)) (by first | exact Nat.mul_one _ | rfl | omega)) ?_
              | refine DL_c (op_ixS _ _ inferInstance rfl rfl (Int.toNat _) (Int.toNat_of_nonneg (by omega)).symm (by omega) (by first | assumption | decide | (simp only [isl_len, bsl_len, psl_len, mrows_len, nsl_len, ws_len, List.length_map, ul_len, pwL_len, asts_len, psl_len]; omega) | (simp; done) | (simp; omega) | (simp [isl, bsl]; omega)) (by first | exact Nat.mul_one _ | rfl | omega)) ?_
            refine DL_c (op_ldF _ inferInstance rfl (by exact (isl_get _ _ (by omega)).trans (by rw [hca])) rfl) ?_
            refine DL_c (op_as _ (rfl : _ = AV.v (.int _ _))) ?_
            refine DL_nil (hK36 _ ?_)
            clear hK36; try clear K36
            refine D_seq fun K37 hK37 => ?_
            refine D_le (σ' := mkStI 135 [(5, _), (14, _), (89, _), (90, _), (91, _)] [((26, 0), _), ((22, 0), _), ((24, 0), _)] [] []) (by
              refine Le.mkJ [] [] rfl ?_ ?_ trivial trivial ?_
              · exact ⟨(iP rfl), (iV rfl), (iS rfl), (iV rfl), (iV rfl), trivial⟩
              · exact ⟨(obE rfl rfl rfl), (obE rfl rfl rfl), (obE rfl rfl rfl), trivial⟩
              · kernel_rfl) ?_
            refine D_anyL 8 [95, 96, 97, 98, 99, 100, 101, 102] [] (by kernel_rfl) (by kernel_rfl) rfl (nodupO_iff rfl) (rfl : _ = [_, _, _, _, _, _, _, _]) (rfl : _ = [_]) ?_
            refine any_c (_, []) (fun τ => op_mv _ (rfl : _ = AV.ptr _ _)) ?_
            refine any_n (rfl : _ = [_]) ?_
            refine any_c (_, []) (fun τ => op_nilp _ rfl rfl) ?_
            refine any_n (rfl : _ = [_, _]) ?_
            first
              | refine any_c (_, []) (fun τ => op_fldP _ inferInstance rfl rfl rfl) ?_
              | refine any_c (_, []) (fun τ => op_fldF _ inferInstance rfl rfl) ?_
            refine any_n (rfl : _ = [_, _, _]) ?_
            first
              | refine any_c (_, []) (fun τ => op_ldB _ inferInstance rfl rfl (rfl : _ = some (AV.ref _ _ _))) ?_
              | refine any_c (_, []) (fun τ => op_ldR _ inferInstance rfl rfl (by first | rfl | exact isl_get _ _ (by omega) | exact bsl_get _ _ (by omega) | assumption | exact isl_get _ _ (by omega) | exact nsl_get _ _ (by omega) | exact ul_get _ _ (by omega) | exact nrows_get _ _ (by omega)) rfl) ?_
            refine any_n (rfl : _ = [_, _, _, _]) ?_
            refine any_c (_, []) (fun τ => op_mv _ (rfl : _ = AV.v (.int _ _))) ?_
            refine any_n (rfl : _ = [_, _, _, _, _]) ?_
            refine any_c (_, []) (fun τ => op_mv _ (rfl : _ = AV.v (.int _ _))) ?_
            refine any_n (rfl : _ = [_, _, _, _, _, _]) ?_
            refine any_c (_, []) (fun τ => (op_callH inferInstance (by repeat' (first | exact argsLv_nil | refine argsLv_cons ?_ ?_ | exact Lv.v | exact lvI (by omega) | exact Lv.sl | exact Lv.fp | exact Lv.nil | refine Lv.agg rfl ?_ | refine Lv.fn rfl ?_ rfl ?_ | exact lv_nil | refine lv_cons ?_ ?_ | exact Lv.z0)) (with_spec 0 a (by omega) (by omega)) rfl rfl)) ?_
            refine any_n (rfl : _ = [_, _, _, _, _, _, _]) ?_
            refine any_c (_, []) (fun τ => op_ixR _ _ inferInstance rfl rfl rfl a rfl (by omega) (by exact (Nat.zero_add _).trans (Nat.mul_one _))) ?_
            refine any_n (rfl : _ = [_, _, _, _, _, _, _, _]) ?_
            refine any_end ⟨rfl, ?_⟩
            refine DL_c (op_stR _ _ inferInstance rfl rfl rfl rfl rfl (by simp; omega) (ul_put _ _ _ (by omega))) ?_
            refine DL_nil (hK37 _ ?_)
            clear hK37; try clear K37
            refine D_seq fun K38 hK38 => ?_
            refine D_region ?_
            refine DL_c (op_mv _ (rfl : _ = AV.ptr _ _)) ?_
            refine DL_c (op_nilp _ rfl rfl) ?_
            first
              | refine DL_c (op_fldP _ inferInstance rfl rfl rfl) ?_
              | refine DL_c (op_fldF _ inferInstance rfl rfl) ?_
            first
              | refine DL_c (op_ldB _ inferInstance rfl rfl (rfl : _ = some (AV.ref _ _ _))) ?_
              | refine DL_c (op_ldR _ inferInstance rfl rfl (by first | rfl | exact isl_get _ _ (by omega) | exact bsl_get _ _ (by omega) | assumption | exact isl_get _ _ (by omega) | exact nsl_get _ _ (by omega) | exact ul_get _ _ (by omega) | exact nrows_get _ _ (by omega)) rfl) ?_
            refine DL_c (op_mv _ (rfl : _ = AV.v (.int _ _))) ?_
            refine DL_c (op_ixR _ _ inferInstance rfl rfl rfl a rfl (by omega) (by exact (Nat.zero_add _).trans (Nat.mul_one _))) ?_
            refine DL_c (op_ldR _ inferInstance rfl rfl (by exact (ul_get _ _ (by omega)).trans (by rw [hpa])) rfl) ?_
            refine DL_c (op_callH inferInstance (by repeat' (first | exact argsLv_nil | refine argsLv_cons ?_ ?_ | exact Lv.v | exact lvI (by omega) | exact Lv.sl | exact Lv.fp | exact Lv.nil | refine Lv.agg rfl ?_ | refine Lv.fn rfl ?_ rfl ?_ | exact lv_nil | refine lv_cons ?_ ?_ | exact Lv.z0)) (hLa) rfl rfl) ?_
            refine DL_c (op_lenS _ inferInstance rfl) ?_
            refine DL_c (op_mv _ (rfl : _ = AV.v (.int _ _))) ?_
            refine DL_nil (hK38 _ ?_)
            clear hK38; try clear K38
            refine D_block ?_
            refine D_loopL (α := Nat) (fun j => j ≤ (parE Ps a).length) 135 [(5, _), (14, _), (89, _), (90, _), (91, _), (110, _), (111, _)] [((26, 0), _), ((22, 0), _)] (fun j => [(112, .v (.int .i64 (j : Int)))]) (fun j => [((24, 0), .row 125 1 (ul ((asts v (parE Ps) (O.take k)).set a (aw (asts v (parE Ps) (O.take k)) a (parE Ps a) j))))]) [] [] (fun j => (parE Ps a).length - j) 0 ?_ (by
              refine Le.mkJ [] [] rfl ?_ ?_ trivial trivial ?_
              · exact ⟨(iP rfl), (iV rfl), (iS rfl), (iV rfl), (iV rfl), (iS rfl), (iV rfl), (lvI (by first | rfl | omega | (simp; done) | (simp; omega) | assumption)), trivial⟩
              · exact ⟨(obE rfl rfl rfl), (obE rfl rfl rfl), (obR rfl rfl rfl (by rw [aw_zero, Nat.zero_or])), trivial⟩
              · kernel_rfl) ?_
            · first | omega | trivial | exact ⟨by omega, by omega⟩
            intro j hj
            refine D_seq fun K39 hK39 => ?_
            refine D_region ?_
            first
              | refine DL_c (op_lss _ _ rfl rfl (by assumption)) ?_
              | refine DL_c (op_lss _ _ rfl rfl rfl) ?_
            refine DL_nil (hK39 _ ?_)
            clear hK39; try clear K39
            refine D_seq fun K40 hK40 => ?_
            refine D_splitC rfl (fun hc113 => ?_) (fun hc113 => ?_)
            · skip
              obtain ⟨p, hp⟩ : ∃ p, p = (parE Ps a).getD j 0 := ⟨_, rfl⟩
              have hpm : p ∈ parE Ps a := hp ▸ getD_mem (by omega)
              have hpe := (hpE a han p).1 hpm
              have hpn := (Clo.lt hE (.one hpe)).1
              have hpne : p ≠ a := fun e => hnc ⟨a, han, .one (e ▸ hpe)⟩
              have haw := aw_lt hat (show a < 64 by omega) (parE Ps a) j
              have has := aw_succ (s := asts v (parE Ps) (O.take k)) (v := a) (l := parE Ps a) (j := j) (by omega)
              rw [← hp] at has
              refine D_skip (hK40 _ ?_)
              clear hK40; try clear K40
              refine D_seq fun K41 hK41 => ?_
              refine D_block ?_
              refine D_seq fun K42 hK42 => ?_
              refine D_region ?_
              first
                | refine DL_c (op_ixS _ _ inferInstance rfl rfl _ rfl (by omega) (by first | assumption | decide | (simp only [isl_len, bsl_len, psl_len, mrows_len, nsl_len, ws_len, List.length_map, ul_len, pwL_len, asts_len, psl_len]; omega) | (simp; done) | (simp; omega) | (simp [isl, bsl]; omega)) (by first | exact Nat.mul_one _ | rfl | omega)) ?_
                | refine DL_c (op_ixS _ _ inferInstance rfl rfl (Int.toNat _) (Int.toNat_of_nonneg (by omega)).symm (by omega) (by first | assumption | decide | (simp only [isl_len, bsl_len, psl_len, mrows_len, nsl_len, ws_len, List.length_map, ul_len, pwL_len, asts_len, psl_len]; omega) | (simp; done) | (simp; omega) | (simp [isl, bsl]; omega)) (by first | exact Nat.mul_one _ | rfl | omega)) ?_
              refine DL_c (op_ldF _ inferInstance rfl (by exact (nsl_get _ _ (by omega)).trans (by rw [← hp])) rfl) ?_
              refine DL_c (op_as _ (rfl : _ = AV.v (.int _ _))) ?_
              refine DL_nil (hK42 _ ?_)
              clear hK42; try clear K42
              refine D_le (σ' := mkStI 135 [(5, _), (14, _), (16, _), (89, _), (90, _), (91, _), (110, _), (111, _), (112, _)] [((26, 0), _), ((22, 0), _), ((24, 0), _)] [] []) (by
                refine Le.mkJ [] [] rfl ?_ ?_ trivial trivial ?_
                · exact ⟨(iP rfl), (iV rfl), (iV rfl), (iS rfl), (iV rfl), (iV rfl), (iS rfl), (iV rfl), (iV rfl), trivial⟩
                · exact ⟨(obE rfl rfl rfl), (obE rfl rfl rfl), (obE rfl rfl rfl), trivial⟩
                · kernel_rfl) ?_
              refine D_anyL 16 [116, 117, 118, 119, 120, 121, 122, 123, 124, 125, 126, 127, 128, 129, 130, 131] [] (by kernel_rfl) (by kernel_rfl) rfl (nodupO_iff rfl) (rfl : _ = [_, _, _, _, _, _, _, _, _, _, _, _, _, _, _, _]) (rfl : _ = [_]) ?_
              refine any_c (_, []) (fun τ => op_mv _ (rfl : _ = AV.ptr _ _)) ?_
              refine any_n (rfl : _ = [_]) ?_
              refine any_c (_, []) (fun τ => op_nilp _ rfl rfl) ?_
              refine any_n (rfl : _ = [_, _]) ?_
              first
                | refine any_c (_, []) (fun τ => op_fldP _ inferInstance rfl rfl rfl) ?_
                | refine any_c (_, []) (fun τ => op_fldF _ inferInstance rfl rfl) ?_
              refine any_n (rfl : _ = [_, _, _]) ?_
              first
                | refine any_c (_, []) (fun τ => op_ldB _ inferInstance rfl rfl (rfl : _ = some (AV.ref _ _ _))) ?_
                | refine any_c (_, []) (fun τ => op_ldR _ inferInstance rfl rfl (by first | rfl | exact isl_get _ _ (by omega) | exact bsl_get _ _ (by omega) | assumption | exact isl_get _ _ (by omega) | exact nsl_get _ _ (by omega) | exact ul_get _ _ (by omega) | exact nrows_get _ _ (by omega)) rfl) ?_
              refine any_n (rfl : _ = [_, _, _, _]) ?_
              refine any_c (_, []) (fun τ => op_mv _ (rfl : _ = AV.v (.int _ _))) ?_
              refine any_n (rfl : _ = [_, _, _, _, _]) ?_
              refine any_c (_, []) (fun τ => op_ixR _ _ inferInstance rfl rfl rfl a rfl (by omega) (by exact (Nat.zero_add _).trans (Nat.mul_one _))) ?_
              refine any_n (rfl : _ = [_, _, _, _, _, _]) ?_
              refine any_c (_, []) (fun τ => op_ldR _ inferInstance rfl rfl (by exact ul_get_set _ _ _ (by omega)) rfl) ?_
              refine any_n (rfl : _ = [_, _, _, _, _, _, _]) ?_
              refine any_c (_, []) (fun τ => op_mv _ (rfl : _ = AV.ptr _ _)) ?_
              refine any_n (rfl : _ = [_, _, _, _, _, _, _, _]) ?_
              refine any_c (_, []) (fun τ => op_nilp _ rfl rfl) ?_
              refine any_n (rfl : _ = [_, _, _, _, _, _, _, _, _]) ?_
              first
                | refine any_c (_, []) (fun τ => op_fldP _ inferInstance rfl rfl rfl) ?_
                | refine any_c (_, []) (fun τ => op_fldF _ inferInstance rfl rfl) ?_
              refine any_n (rfl : _ = [_, _, _, _, _, _, _, _, _, _]) ?_
              first
                | refine any_c (_, []) (fun τ => op_ldB _ inferInstance rfl rfl (rfl : _ = some (AV.ref _ _ _))) ?_
                | refine any_c (_, []) (fun τ => op_ldR _ inferInstance rfl rfl (by first | rfl | exact isl_get _ _ (by omega) | exact bsl_get _ _ (by omega) | assumption | exact isl_get _ _ (by omega) | exact nsl_get _ _ (by omega) | exact ul_get _ _ (by omega) | exact nrows_get _ _ (by omega)) rfl) ?_
              refine any_n (rfl : _ = [_, _, _, _, _, _, _, _, _, _, _]) ?_
              refine any_c (_, []) (fun τ => op_mv _ (rfl : _ = AV.v (.int _ _))) ?_
              refine any_n (rfl : _ = [_, _, _, _, _, _, _, _, _, _, _, _]) ?_
              refine any_c (_, []) (fun τ => op_ixR _ _ inferInstance rfl rfl rfl p rfl (by omega) (by exact (Nat.zero_add _).trans (Nat.mul_one _))) ?_
              refine any_n (rfl : _ = [_, _, _, _, _, _, _, _, _, _, _, _, _]) ?_
              refine any_c (_, []) (fun τ => op_ldR _ inferInstance rfl rfl (by exact ul_get_other _ _ _ _ (by omega) hpne) rfl) ?_
              refine any_n (rfl : _ = [_, _, _, _, _, _, _, _, _, _, _, _, _, _]) ?_
              refine any_c (_, []) (fun τ => op_or _ _ rfl rfl (u64_or _ _ haw (hat p))) ?_
              refine any_n (rfl : _ = [_, _, _, _, _, _, _, _, _, _, _, _, _, _, _]) ?_
              refine any_c (_, []) (fun τ => op_ixR _ _ inferInstance rfl rfl rfl a rfl (by omega) (by exact (Nat.zero_add _).trans (Nat.mul_one _))) ?_
              refine any_n (rfl : _ = [_, _, _, _, _, _, _, _, _, _, _, _, _, _, _, _]) ?_
              refine any_end ⟨rfl, ?_⟩
              refine DL_c (op_stR _ _ inferInstance rfl rfl rfl rfl rfl (by simp; omega) (ul_put _ _ _ (by simp; omega))) ?_
              refine DL_nil (hK41 _ ?_)
              clear hK41; try clear K41
              refine D_le (σ' := mkStI 135 [(5, _), (14, _), (89, _), (90, _), (91, _), (110, _), (111, _), (112, _)] [((26, 0), _), ((22, 0), _), ((24, 0), _)] [] []) (by
                refine Le.mkJ [] [] rfl ?_ ?_ trivial trivial ?_
                · exact ⟨(iP rfl), (iV rfl), (iS rfl), (iV rfl), (iV rfl), (iS rfl), (iV rfl), (iV rfl), trivial⟩
                · exact ⟨(obE rfl rfl rfl), (obE rfl rfl rfl), (obE rfl rfl rfl), trivial⟩
                · kernel_rfl) ?_
              refine D_region ?_
              first
                | refine DL_c (op_add _ _ rfl rfl (i64w (by omega))) ?_
                | refine DL_c (op_add _ _ rfl rfl rfl) ?_
              refine DL_c (op_mv _ (rfl : _ = AV.v (.int _ _))) ?_
              refine DL_nil ?_
              refine ⟨j + 1, ?_, ?_, ?_⟩
              · omega
              · skip
                refine Le.mkJ [] [] rfl ?_ ?_ trivial trivial ?_
                · exact ⟨(iP rfl), (iV rfl), (iS rfl), (iV rfl), (iV rfl), (iS rfl), (iV rfl), (lvI (by first | rfl | omega | (simp; done) | (simp; omega) | assumption)), trivial⟩
                · exact ⟨(obE rfl rfl rfl), (obE rfl rfl rfl), (obR rfl rfl rfl (by rw [List.set_set, has])), trivial⟩
                · kernel_rfl
              · omega
            · skip
              have hjl : j = (parE Ps a).length := by omega
              refine D_exit ?_
              refine id (hK35 _ ?_)
              clear hK35; try clear K35
              refine D_region ?_
              first
                | refine DL_c (op_add _ _ rfl rfl (i64w (by omega))) ?_
                | refine DL_c (op_add _ _ rfl rfl rfl) ?_
              refine DL_c (op_mv _ (rfl : _ = AV.v (.int _ _))) ?_
              refine DL_nil ?_
              refine ⟨k + 1, ?_, ?_, ?_⟩
              · omega
              · skip
                refine Le.mkJ [] [] rfl ?_ ?_ trivial trivial ?_
                · exact ⟨(iP rfl), (iS rfl), (iV rfl), (lvI (by first | rfl | omega | (simp; done) | (simp; omega) | assumption)), trivial⟩
                · exact ⟨(obE rfl rfl rfl), (obE rfl rfl rfl), (obR rfl rfl rfl (by rw [hts, astp, hjl])), trivial⟩
                · kernel_rfl
              · omega
          · skip
            obtain rfl : k = v := by omega
            have hfin : asts k (parE Ps) (O.take k) = ancW k (edg Ps k 0) := by rw [List.take_of_length_le (by omega)]; exact hall
            have hpf : pwL k Ps k 0 = parW Ps := by have := pwL_full Ps; rw [hPs] at this; exact this
            have hal := asts_len k (parE Ps) (O.take k)
            refine D_exit ?_
            refine id (hK31 _ ?_)
            clear hK31; try clear K31
            refine D_seq fun K43 hK43 => ?_
            refine D_le (Le.mkJ (n := 135) (slots := [(5, .ptr (26, 0) 0)]) (obs := [((26, 0), .box 123 [.sl k (ul (parW Ps)), .sl k (ul (ancW k (edg Ps k 0)))])]) (I := []) (Pn := []) [] [(22, 0), (24, 0)] rfl ⟨lvPr rfl, trivial⟩ ⟨obB rfl rfl rfl rfl (lv_cons (frz0 rfl rfl (by simp) (by rw [hpf])) (lv_cons (frz0 rfl rfl (by simp) (by rw [hfin])) lv_nil)), trivial⟩ ⟨rfl, rfl, trivial⟩ trivial (by kernel_rfl)) ?_
            refine D_region ?_
            refine DL_c (op_mv _ (rfl : _ = AV.ptr _ _)) ?_
            refine DL_c (op_as _ (rfl : _ = AV.ptr _ _)) ?_
            refine DL_c (op_as _ (rfl : _ = AV.v (.int _ _))) ?_
            refine DL_nil (hK43 _ ?_)
            clear hK43; try clear K43
            refine D_ret ?_
            rw [newV_ok (by omega) hV (by rw [hPs]; exact hnc), hPs]
            exact ret2 (.inr rfl) rfl (.tmp (rfl : _ = AV.ptr _ _)) (.tmp (rfl : _ = AV.v _)) (Le.out [] [(26, 0)] (.tup rfl (lv_cons (.frzP rfl rfl rfl) (lv_cons .v lv_nil))) rfl rfl rfl ⟨rfl, trivial⟩ trivial)
end Go.Proofs.Ytkbkmngbenohkaa
