/- The law VersionsOwn by the machine. -/
import Derived.Test.YtkbkmngbenohkaaVoX0
import Derived.Test.YtkbkmngbenohkaaVoV6
import Derived.Test.YtkbkmngbenohkaaVoO4
import Derived.Test.YtkbkmngbenohkaaVoO5
import Derived.Test.YtkbkmngbenohkaaVoO6
set_option linter.unusedSimpArgs false
set_option linter.unusedVariables false
namespace Go.Proofs.Ytkbkmngbenohkaa
open Go.RowKit

/-- Lists as long as Ps, row for row. -/
def Shp (Ps M : List (List Int)) : Prop := M.length = Ps.length ∧ ∀ j, (M.getD j []).length = (Ps.getD j []).length
def iset (M : List (List Int)) (a b : Nat) (c : Int) : List (List Int) := M.set a ((M.getD a []).set b c)
theorem Shp.set {Ps M : List (List Int)} (h : Shp Ps M) (a b : Nat) (c : Int) : Shp Ps (iset M a b c) := by
  refine ⟨by simp [iset, h.1], fun j => ?_⟩
  rw [← h.2 j, iset, List.getD_eq_getElem?_getD, List.getElem?_set]
  split
  · rename_i hj
    subst hj
    split
    · simp
    · rename_i hl
      rw [List.getD_eq_getElem?_getD, List.getElem?_eq_none (by omega)]
  · rw [List.getD_eq_getElem?_getD]
theorem iput {M : List (List Int)} {a b : Nat} {c : Int} (hb : b < (M.getD a []).length) : (iset M a b c).map isl = (M.map isl).set a (putL (isl (M.getD a [])) b [.v (.int .i64 c)]) := by
  rw [isl_put _ _ _ hb]
  simp [iset, List.map_set]
theorem iputL {M : List (List Int)} {a b : Nat} {c : Int} (hb : b < (M.getD a []).length) : (putL (isl (M.getD a [])) b [.v (.int .i64 c)]).length = ((M.map isl).getD a []).length := by
  rw [isl_put _ _ _ hb, irow_get, isl_len, isl_len, List.length_set]
theorem isl_flat (l : List Int) : ∀ p ∈ isl l, ∃ x, p = PV.v x := by
  intro p hp
  simp only [isl, List.mem_map] at hp
  obtain ⟨a, _, rfl⟩ := hp
  exact ⟨_, rfl⟩
theorem ul_flat (l : List Nat) : ∀ p ∈ ul l, ∃ x, p = PV.v x := by
  intro p hp
  simp only [ul, List.mem_map] at hp
  obtain ⟨a, _, rfl⟩ := hp
  exact ⟨_, rfl⟩
/-- All are made x. -/
def fillN (l : List Nat) (x : Int) (k : Nat) : List Int := List.replicate k x ++ (l.drop k).map fun (x : Nat) => (x : Int)
theorem fillN_zero (l : List Nat) (x : Int) : nsl l = isl (fillN l x 0) := by simp [fillN, nsl, isl]
theorem fillN_len (l : List Nat) (x : Int) (k : Nat) (h : k ≤ l.length) : (fillN l x k).length = l.length := by simp [fillN]; omega
theorem fillN_succ {l : List Nat} {x : Int} {k : Nat} (h : k < l.length) : (fillN l x k).set k x = fillN l x (k + 1) := by
  unfold fillN
  rw [List.set_append_right _ _ (by simp), List.length_replicate, Nat.sub_self, List.drop_eq_getElem_cons h, List.map_cons, List.set_cons_zero, List.replicate_succ', List.append_assoc]
  rfl
set_option maxHeartbeats 4000000 in
theorem vowns_law (m : Nat) (l : List Int) (hm : l.length = m) (h1 : m ≤ 4611686018427387904) (hr : Rng l) (ms : Nat) (s : List Int) (hms : s.length = ms) (h2 : ms ≤ 4611686018427387904) (hs : Rng s) :
    Spec Try.prog 17 (inSt [.sl m (isl l), .sl ms (isl s)] []) (outSt (.v (.bool true)) []) := by
  have hP := par32_spec m l hm h1 hr
  have hPo := par32_own m l hm h1 hr
  have hN := par32_near l
  obtain ⟨hn1, hn2⟩ := prM_pos l
  have hPn := par32_len l
  generalize par32 l = Ps at hP hPo hN hPn
  generalize prM l = n at hP hPo hPn hn1 hn2
  have hG : GG n Ps := hPn ▸ hN.gg
  have hst := status32_len Ps s false
  have hSt := status_own n Ps hG ms s hms h2 hs false
  rw [hPn] at hst
  generalize status32 Ps s false = st at hSt hst
  have hn64 : n ≤ 64 := by omega
  have hNw := vnew_own n Ps hPn (by omega) (fun v => by have := hN.rows v; omega) (fun hV _ a _ => by
    subst hPn
    rw [nxt_edg a Ps.length fun v hv => (hV v hv).1, List.length_map]
    exact Nat.le_trans (filter_few (a := a) (m := 4) _ fun v hp => by
      rw [decide_eq_true_eq] at hp
      by_cases hv : v < Ps.length
      · have := (hN.r v hv).1.b _ hp; omega
      · rw [List.getD_eq_getElem?_getD, List.getElem?_eq_none (by omega)] at hp; cases hp) (by decide)) hn64 hN.valid hN.acyc
  have hPW : PW n (edg Ps n 0) (parW Ps) := by have := parW_pw hG.V (by omega); rw [hPn] at this; exact this
  have hM1 := fun v => minimal_spec n (edg Ps n 0) (parW Ps) hPW st hst v
  have hM2 := fun v => rminL_spec n Ps hG st hst v
  have hwl := fun v : Int => wat_len (n := n) (ancW n (edg Ps n 0)) v
  have hml := fun v : Int => minL_len n (edg Ps n 0) st (wat n (ancW n (edg Ps n 0)) v)
  have hm2 := fun v : Int => minL_len2 n (edg Ps n 0) st (wat n (ancW n (edg Ps n 0)) v)
  have hsame : ∀ v : Int, Spec Try.prog 61 (inSt [.sl (minL n (edg Ps n 0) st (wat n (ancW n (edg Ps n 0)) v)).length (blR (minL n (edg Ps n 0) st (wat n (ancW n (edg Ps n 0)) v))), .sl (minL n (edg Ps n 0) st (wat n (ancW n (edg Ps n 0)) v)).length (blR (minL n (edg Ps n 0) st (wat n (ancW n (edg Ps n 0)) v)))] []) (outSt (.v (.bool true)) []) := fun v => by
    have := samebl_spec _ _ (minL n (edg Ps n 0) st (wat n (ancW n (edg Ps n 0)) v)) (minL n (edg Ps n 0) st (wat n (ancW n (edg Ps n 0)) v)) rfl rfl (by have := hwl v; have := hml v; omega) (by have := hwl v; have := hml v; omega) (hm2 v) (hm2 v)
    rw [decide_eq_true rfl] at this
    exact this
  have hpl : (parW Ps).length = n := by rw [parW_len, hPn]
  have hpw : ∀ v, (parW Ps).getD v 0 < 18446744073709551616 := parW_lt hG.V (by omega)
  have haw := ancW_lt hn64 (edg Ps n 0)
  have hA1 := fun v : Int => ancestors_spec n (parW Ps) (ancW n (edg Ps n 0)) (ancW_len _ _) hn64 haw v
  have hA2 : ∀ v : Int, Spec Try.prog 66 (inSt [.sl n (nrows Ps), .v (.int .i64 v)] []) (outSt (.sl (wat n (ancW n (edg Ps n 0)) v).length (nsl (wat n (ancW n (edg Ps n 0)) v))) []) := fun v => by
    subst hPn
    have h := rancestors_spec Ps.length Ps rfl (by omega) hG.V (fun v => by have := hG.m v; omega) v
    rw [rat_els hG.V hG.n64 v, List.length_map] at h
    exact h
  have hsI : ∀ v : Int, Spec Try.prog 40 (inSt [.sl (wat n (ancW n (edg Ps n 0)) v).length (nsl (wat n (ancW n (edg Ps n 0)) v)), .sl (wat n (ancW n (edg Ps n 0)) v).length (nsl (wat n (ancW n (edg Ps n 0)) v))] []) (outSt (.v (.bool true)) []) := fun v => by
    have := same_spec (wat n (ancW n (edg Ps n 0)) v).length (wat n (ancW n (edg Ps n 0)) v).length ((wat n (ancW n (edg Ps n 0)) v).map fun (x : Nat) => (x : Int)) ((wat n (ancW n (edg Ps n 0)) v).map fun (x : Nat) => (x : Int)) (by simp) (by simp) (by have := hwl v; omega) (by have := hwl v; omega)
    rw [decide_eq_true rfl] at this
    exact this
  have hao := fun (v : Nat) (hv : v < n) => ancestors_own n (parW Ps) (ancW n (edg Ps n 0)) (ancW_len _ _) hn64 haw v hv
  have hpo := fun (v : Nat) (hv : v < n) => parents_own n (parW Ps) (ancW n (edg Ps n 0)) hpl hn64 hpw v hv
  have hS0 : Shp Ps Ps := ⟨rfl, fun _ => rfl⟩
  have hr3 := hN.rows
  have hrs : (rowsSl (Ps.map isl)).length = n := by simp [rowsSl, hPn]
  have hAl : (ancW n (edg Ps n 0)).length = n := ancW_len _ _
  generalize hPA : parW Ps = P at *
  generalize hAA : ancW n (edg Ps n 0) = A at *
  refine Spec.ofN Try.func17 rfl Try.ntmps17 rfl ?_
  refine D_seq fun K1 hK1 => ?_
  refine D_region ?_
  refine DL_c (op_as _ (rfl : _ = AV.v (.bool _))) ?_
  refine DL_nil (hK1 _ ?_)
  clear hK1; try clear K1
  refine D_seq fun K2 hK2 => ?_
  refine D_region ?_
  refine DL_c (op_mv _ (rfl : _ = AV.sl _ _)) ?_
  refine DL_c (op_callU inferInstance (by repeat' (first | exact argsLv_nil | refine argsLv_cons ?_ ?_ | exact Lv.v | exact lvI (by omega) | exact Lv.sl | exact Lv.fp | exact Lv.nil | refine Lv.agg rfl ?_ | refine Lv.fn rfl ?_ rfl ?_ | exact lv_nil | refine lv_cons ?_ ?_ | exact Lv.z0)) (hPo) rfl rfl (fun _ => rfl) (fun _ => .inr rfl)) ?_
  refine DL_c (op_as _ (rfl : _ = AV.ref _ _ _)) ?_
  refine DL_nil (hK2 _ ?_)
  clear hK2; try clear K2
  refine D_seq fun K3 hK3 => ?_
  refine D_le (σ' := mkStB 108 [(0, _), (1, _), (5, _)] [] ⟨(100, 0), true, 29, 3, 1000, (Ps.map isl)⟩ [] []) (by
    refine Le.keepB [] [] rfl ?_ ?_ trivial trivial (by kernel_rfl) rfl rfl rfl (fun _ => rfl) (by kernel_rfl) (fun _ => rfl)
    · exact ⟨(by repeat' (first | exact Lv.v | exact Lv.sl | exact Lv.fp | exact lvRr rfl rfl | exact lvPr rfl | exact Lv.mp | exact Lv.nil | exact Lv.z | exact Lv.dead | refine Lv.agg rfl ?_ | refine Lv.fn rfl ?_ rfl ?_ | refine Lv.tup rfl ?_ | refine Lv.ifc ?_ | exact lv_nil | refine lv_cons ?_ ?_)), (by repeat' (first | exact Lv.v | exact Lv.sl | exact Lv.fp | exact lvRr rfl rfl | exact lvPr rfl | exact Lv.mp | exact Lv.nil | exact Lv.z | exact Lv.dead | refine Lv.agg rfl ?_ | refine Lv.fn rfl ?_ rfl ?_ | refine Lv.tup rfl ?_ | refine Lv.ifc ?_ | exact lv_nil | refine lv_cons ?_ ?_)), (lvRr (id := (100, 0)) rfl rfl), trivial⟩
    · exact trivial) ?_
  refine D_region ?_
  refine DL_c (op_mv _ (rfl : _ = AV.ref _ _ _)) ?_
  refine DL_c (op_mv _ (rfl : _ = AV.sl _ _)) ?_
  refine DL_c (op_callL inferInstance (Le.frzFam (n := 108) (slots := [(19, .ref (100, 0) 0 n), (20, .sl ms (isl s))]) (obs0 := []) (bx := (100, 0)) (bx0 := (100, 0)) (gr := true) (E := 29) (e := 3) (rows := Ps.map isl) (I := []) (Pn := []) 1000 rfl ⟨lv_id _, lv_id _, trivial⟩ ⟨frzOuter rfl rfl (fun _ => rfl) (by kernel_rfl) rfl rfl, trivial⟩ (fun _ => rfl) trivial (by kernel_rfl)) (argsLv_cons (Lv.frzA rfl rfl (downs_isl _) (by omega) (by decide)) (argsLv_cons Lv.sl (argsLv_cons Lv.v argsLv_nil))) (hSt) rfl rfl (fun _ => rfl) (dis1 rfl) rfl (flat1 (isl_flat _))) ?_
  refine DL_c (op_as _ (rfl : _ = AV.ref _ _ _)) ?_
  refine DL_nil (hK3 _ ?_)
  clear hK3; try clear K3
  refine D_seq fun K4 hK4 => ?_
  refine D_region ?_
  refine DL_c (op_mv _ (rfl : _ = AV.ref _ _ _)) ?_
  refine DL_c (op_callL inferInstance (Le.frzFam (n := 108) (slots := [(23, .ref (100, 0) 0 n)]) (obs0 := []) (bx := (100, 0)) (bx0 := (100, 0)) (gr := true) (E := 29) (e := 3) (rows := Ps.map isl) (I := []) (Pn := []) 1000 rfl ⟨lv_id _, trivial⟩ ⟨frzOuter rfl rfl (fun _ => rfl) (by kernel_rfl) rfl rfl, trivial⟩ (fun _ => rfl) trivial (by kernel_rfl)) (argsLv_cons (Lv.frzA rfl rfl (downs_isl _) (by omega) (by decide)) argsLv_nil) (hNw) rfl rfl (fun _ => rfl) (dis3 rfl rfl rfl) rfl (flat3 rfl (ul_flat _) (ul_flat _))) ?_
  refine DL_c (op_mv _ (rfl : _ = AV.tup _)) ?_
  first
    | refine DL_c (op_ext _ rfl (rfl : _ = some (AV.ptr _ _))) ?_
    | refine DL_c (op_ext _ rfl (rfl : _ = some (AV.fp _ _))) ?_
    | refine DL_c (op_ext _ rfl (rfl : _ = some (AV.v (.pointer _)))) ?_
  refine DL_c (op_ext _ rfl (rfl : _ = some (AV.v (.int _ _)))) ?_
  refine DL_c (op_as _ (rfl : _ = AV.ptr _ _)) ?_
  refine DL_c (op_as _ (rfl : _ = AV.v (.int _ _))) ?_
  refine DL_nil (hK4 _ ?_)
  clear hK4; try clear K4
  refine D_seq fun K5 hK5 => ?_
  refine D_seq fun K6 hK6 => ?_
  refine D_region ?_
  refine DL_c (op_mv _ (rfl : _ = AV.ptr _ _)) ?_
  refine DL_c (op_eqN _ _ (by kernel_rfl) (.inl ⟨_, _, _, rfl, rfl⟩) rfl) ?_
  refine DL_c (op_mv _ (rfl : _ = AV.v (.bool _))) ?_
  refine DL_cy rfl rfl (op_mv _ (rfl : _ = AV.v (.int _ _))) ?_
  refine DL_cy rfl rfl (op_neq (r := false) _ _ rfl rfl rfl) ?_
  refine DL_c (op_pick _ _ _ rfl (rfl : _ = AV.v (.bool _))) ?_
  refine DL_nil (hK6 _ ?_)
  clear hK6; try clear K6
  refine D_cF rfl rfl ?_
  refine D_skip (hK5 _ ?_)
  clear hK5; try clear K5
  refine D_seq fun K7 hK7 => ?_
  refine D_seq fun K8 hK8 => ?_
  refine D_le (Le.trans (Le.frzPt 7 rfl rfl rfl rfl) (Le.trans (Le.frzB (ys := ul A) (60, 0) 1 rfl rfl rfl rfl (by rw [List.drop_zero, Nat.mul_one]; exact List.take_of_length_le (by rw [ul_len]; omega)) (by rw [ul_len]; omega)) (Le.trans (Le.frzB (ys := ul P) (60, 0) 0 rfl rfl rfl rfl (by rw [List.drop_zero, Nat.mul_one]; exact List.take_of_length_le (by rw [ul_len]; omega)) (by rw [ul_len]; omega)) (Le.frzS (ys := isl st) 6 rfl rfl rfl (by rw [List.drop_zero, Nat.mul_one]; exact List.take_of_length_le (by rw [isl_len]; omega)) (by rw [isl_len]; omega))))) ?_
  refine D_region ?_
  refine DL_c (op_as _ (rfl : _ = AV.v (.int _ _))) ?_
  refine DL_nil (hK8 _ ?_)
  clear hK8; try clear K8
  refine D_block ?_
  refine D_loopLB (α := Nat × List (List Int)) (fun z => z.1 ≤ n ∧ Shp Ps z.2) 108 [(0, _), (5, _), (6, _), (7, _)] [] (fun z => [(9, .v (.int .i64 (z.1 : Int)))]) (fun z => []) (fun z => ⟨(100, 0), true, 29, 3, 1000, (z.2.map isl)⟩) [] [] (fun z => n - z.1) (0, Ps) ?_ (by
    refine Le.keepB [] [] rfl ?_ ?_ trivial trivial (by kernel_rfl) rfl rfl rfl (fun _ => rfl) (by kernel_rfl) (fun _ => rfl)
    · exact ⟨(by repeat' (first | exact Lv.v | exact Lv.sl | exact Lv.fp | exact lvRr (id := (100, 0)) rfl rfl | exact lvPr (id := (100, 0)) rfl | exact lvRr rfl rfl | exact lvPr rfl | exact Lv.mp | exact Lv.nil | exact Lv.z | exact Lv.dead | refine Lv.agg rfl ?_ | refine Lv.fn rfl ?_ rfl ?_ | refine Lv.tup rfl ?_ | refine Lv.ifc ?_ | exact lv_nil | refine lv_cons ?_ ?_)), (lvRr (id := (100, 0)) rfl rfl), (by repeat' (first | exact Lv.v | exact Lv.sl | exact Lv.fp | exact lvRr (id := (100, 0)) rfl rfl | exact lvPr (id := (100, 0)) rfl | exact lvRr rfl rfl | exact lvPr rfl | exact Lv.mp | exact Lv.nil | exact Lv.z | exact Lv.dead | refine Lv.agg rfl ?_ | refine Lv.fn rfl ?_ rfl ?_ | refine Lv.tup rfl ?_ | refine Lv.ifc ?_ | exact lv_nil | refine lv_cons ?_ ?_)), (by repeat' (first | exact Lv.v | exact Lv.sl | exact Lv.fp | exact lvRr (id := (100, 0)) rfl rfl | exact lvPr (id := (100, 0)) rfl | exact lvRr rfl rfl | exact lvPr rfl | exact Lv.mp | exact Lv.nil | exact Lv.z | exact Lv.dead | refine Lv.agg rfl ?_ | refine Lv.fn rfl ?_ rfl ?_ | refine Lv.tup rfl ?_ | refine Lv.ifc ?_ | exact lv_nil | refine lv_cons ?_ ?_)), (lvI (by first | rfl | omega | (simp; done) | (simp; omega) | assumption)), trivial⟩
    · exact trivial) ?_
  · exact ⟨Nat.zero_le _, hS0⟩
  intro z hz
  obtain ⟨hz1, hzS⟩ := hz
  have hzl := hzS.1
  refine D_seq fun K9 hK9 => ?_
  refine D_seq fun K10 hK10 => ?_
  refine D_region ?_
  refine DL_c (op_mv _ (rfl : _ = AV.v (.int _ _))) ?_
  refine DL_c (op_mv _ (rfl : _ = AV.ref _ _ _)) ?_
  refine DL_c (op_lenA _ inferInstance rfl rfl) ?_
  first
    | refine DL_c (op_lss _ _ rfl rfl (by assumption)) ?_
    | refine DL_c (op_lss _ _ rfl rfl rfl) ?_
  refine DL_nil (hK10 _ ?_)
  clear hK10; try clear K10
  refine D_splitC rfl (fun hc36 => ?_) (fun hc36 => ?_)
  · skip
    refine D_skip (hK9 _ ?_)
    clear hK9; try clear K9
    refine D_seq fun K11 hK11 => ?_
    refine D_block ?_
    refine D_seq fun K12 hK12 => ?_
    refine D_seq fun K13 hK13 => ?_
    refine D_region ?_
    refine DL_c (op_as _ (rfl : _ = AV.v (.int _ _))) ?_
    refine DL_nil (hK13 _ ?_)
    clear hK13; try clear K13
    refine D_block ?_
    refine D_loopLB (α := Nat × List (List Int)) (fun y => y.1 ≤ (Ps.getD z.1 []).length ∧ Shp Ps y.2) 108 [(0, _), (5, _), (6, _), (7, _), (9, _)] [] (fun y => [(10, .v (.int .i64 (y.1 : Int)))]) (fun y => []) (fun y => ⟨(100, 0), true, 29, 3, 1000, (y.2.map isl)⟩) [] [] (fun y => (Ps.getD z.1 []).length - y.1) (0, z.2) ?_ (by
      refine Le.keepB [] [] rfl ?_ ?_ trivial trivial (by kernel_rfl) rfl rfl rfl (fun _ => rfl) (by kernel_rfl) (fun _ => rfl)
      · exact ⟨(by repeat' (first | exact Lv.v | exact Lv.sl | exact Lv.fp | exact lvRr (id := (100, 0)) rfl rfl | exact lvPr (id := (100, 0)) rfl | exact lvRr rfl rfl | exact lvPr rfl | exact Lv.mp | exact Lv.nil | exact Lv.z | exact Lv.dead | refine Lv.agg rfl ?_ | refine Lv.fn rfl ?_ rfl ?_ | refine Lv.tup rfl ?_ | refine Lv.ifc ?_ | exact lv_nil | refine lv_cons ?_ ?_)), (lvRr (id := (100, 0)) rfl rfl), (by repeat' (first | exact Lv.v | exact Lv.sl | exact Lv.fp | exact lvRr (id := (100, 0)) rfl rfl | exact lvPr (id := (100, 0)) rfl | exact lvRr rfl rfl | exact lvPr rfl | exact Lv.mp | exact Lv.nil | exact Lv.z | exact Lv.dead | refine Lv.agg rfl ?_ | refine Lv.fn rfl ?_ rfl ?_ | refine Lv.tup rfl ?_ | refine Lv.ifc ?_ | exact lv_nil | refine lv_cons ?_ ?_)), (by repeat' (first | exact Lv.v | exact Lv.sl | exact Lv.fp | exact lvRr (id := (100, 0)) rfl rfl | exact lvPr (id := (100, 0)) rfl | exact lvRr rfl rfl | exact lvPr rfl | exact Lv.mp | exact Lv.nil | exact Lv.z | exact Lv.dead | refine Lv.agg rfl ?_ | refine Lv.fn rfl ?_ rfl ?_ | refine Lv.tup rfl ?_ | refine Lv.ifc ?_ | exact lv_nil | refine lv_cons ?_ ?_)), (by repeat' (first | exact Lv.v | exact Lv.sl | exact Lv.fp | exact lvRr (id := (100, 0)) rfl rfl | exact lvPr (id := (100, 0)) rfl | exact lvRr rfl rfl | exact lvPr rfl | exact Lv.mp | exact Lv.nil | exact Lv.z | exact Lv.dead | refine Lv.agg rfl ?_ | refine Lv.fn rfl ?_ rfl ?_ | refine Lv.tup rfl ?_ | refine Lv.ifc ?_ | exact lv_nil | refine lv_cons ?_ ?_)), (lvI (by first | rfl | omega | (simp; done) | (simp; omega) | assumption)), trivial⟩
      · exact trivial) ?_
    · exact ⟨Nat.zero_le _, hzS⟩
    intro y hy
    obtain ⟨hy1, hyS⟩ := hy
    have hyl := hyS.1
    have hyr := hyS.2 z.1
    have hr3z := hr3 z.1
    refine D_seq fun K14 hK14 => ?_
    refine D_seq fun K15 hK15 => ?_
    refine D_region ?_
    refine DL_c (op_mv _ (rfl : _ = AV.v (.int _ _))) ?_
    refine DL_c (op_mv _ (rfl : _ = AV.ref _ _ _)) ?_
    refine DL_c (op_mv _ (rfl : _ = AV.v (.int _ _))) ?_
    first
      | refine DL_c (op_ixA' _ _ inferInstance rfl rfl rfl _ rfl (by omega) (by first | exact (Nat.zero_add _).trans (Nat.mul_one _) | exact Nat.zero_add _ | rfl | omega)) ?_
      | refine DL_c (op_ixA' _ _ inferInstance rfl rfl rfl (Int.toNat _) (Int.toNat_of_nonneg (by omega)).symm (by omega) (by first | exact (Nat.zero_add _).trans (Nat.mul_one _) | exact Nat.zero_add _ | rfl | omega)) ?_
    refine DL_c (op_ldA' _ inferInstance rfl rfl (bun_cell (f := 1000) (b := ⟨(100, 0), true, 29, 3, 1000, _⟩) (j := z.1) (n := (Ps.getD z.1 []).length) rfl (by first | omega | assumption | (simp only [isl_len, bsl_len, psl_len, mrows_len, nsl_len, ws_len, List.length_map, ul_len, psl_len, isl_len, nrows_len, prL_len, blR_len, stK_len, inh1_len, st0_len, status32_len]; omega) | (simp; done) | (simp; omega)) (by first | rfl | assumption | (simp only [isl_len, bsl_len, psl_len, mrows_len, nsl_len, ws_len, List.length_map, ul_len, psl_len, isl_len, nrows_len, prL_len, blR_len, stK_len, inh1_len, st0_len, status32_len]; omega) | (simp; done) | (simp; omega) | (rw [irow_get, isl_len]; assumption)) rfl)) ?_
    refine DL_c (op_lenR _ inferInstance rfl (bun_row (b := ⟨(100, 0), true, 29, 3, 1000, _⟩) rfl (by rfl) rfl (by first | omega | assumption | (simp only [isl_len, bsl_len, psl_len, mrows_len, nsl_len, ws_len, List.length_map, ul_len, psl_len, isl_len, nrows_len, prL_len, blR_len, stK_len, inh1_len, st0_len, status32_len]; omega) | (simp; done) | (simp; omega)) (by first | exact irow_get _ _ | rfl))) ?_
    first
      | refine DL_c (op_lss _ _ rfl rfl (by assumption)) ?_
      | refine DL_c (op_lss _ _ rfl rfl rfl) ?_
    refine DL_nil (hK15 _ ?_)
    clear hK15; try clear K15
    refine D_splitC rfl (fun hc45 => ?_) (fun hc45 => ?_)
    · skip
      refine D_skip (hK14 _ ?_)
      clear hK14; try clear K14
      refine D_seq fun K16 hK16 => ?_
      refine D_block ?_
      refine D_region ?_
      refine DL_c (op_mv _ (rfl : _ = AV.ref _ _ _)) ?_
      refine DL_c (op_mv _ (rfl : _ = AV.v (.int _ _))) ?_
      first
        | refine DL_c (op_ixA' _ _ inferInstance rfl rfl rfl _ rfl (by omega) (by first | exact (Nat.zero_add _).trans (Nat.mul_one _) | exact Nat.zero_add _ | rfl | omega)) ?_
        | refine DL_c (op_ixA' _ _ inferInstance rfl rfl rfl (Int.toNat _) (Int.toNat_of_nonneg (by omega)).symm (by omega) (by first | exact (Nat.zero_add _).trans (Nat.mul_one _) | exact Nat.zero_add _ | rfl | omega)) ?_
      refine DL_c (op_ldA' _ inferInstance rfl rfl (bun_cell (f := 1000) (b := ⟨(100, 0), true, 29, 3, 1000, _⟩) (j := z.1) (n := (Ps.getD z.1 []).length) rfl (by first | omega | assumption | (simp only [isl_len, bsl_len, psl_len, mrows_len, nsl_len, ws_len, List.length_map, ul_len, psl_len, isl_len, nrows_len, prL_len, blR_len, stK_len, inh1_len, st0_len, status32_len]; omega) | (simp; done) | (simp; omega)) (by first | rfl | assumption | (simp only [isl_len, bsl_len, psl_len, mrows_len, nsl_len, ws_len, List.length_map, ul_len, psl_len, isl_len, nrows_len, prL_len, blR_len, stK_len, inh1_len, st0_len, status32_len]; omega) | (simp; done) | (simp; omega) | (rw [irow_get, isl_len]; assumption)) rfl)) ?_
      refine DL_c (op_mv _ (rfl : _ = AV.v (.int _ _))) ?_
      refine DL_c (op_mv _ (rfl : _ = AV.v (.int _ _))) ?_
      first
        | refine DL_c (op_ixR _ _ inferInstance rfl (bun_row (b := ⟨(100, 0), true, 29, 3, 1000, _⟩) rfl (by rfl) rfl (by first | omega | assumption | (simp only [isl_len, bsl_len, psl_len, mrows_len, nsl_len, ws_len, List.length_map, ul_len, psl_len, isl_len, nrows_len, prL_len, blR_len, stK_len, inh1_len, st0_len, status32_len]; omega) | (simp; done) | (simp; omega)) (by first | exact irow_get _ _ | rfl)) rfl _ rfl (by omega) (by first | exact (Nat.zero_add _).trans (Nat.mul_one _) | exact Nat.zero_add _ | rfl | omega)) ?_
        | refine DL_c (op_ixR _ _ inferInstance rfl (bun_row (b := ⟨(100, 0), true, 29, 3, 1000, _⟩) rfl (by rfl) rfl (by first | omega | assumption | (simp only [isl_len, bsl_len, psl_len, mrows_len, nsl_len, ws_len, List.length_map, ul_len, psl_len, isl_len, nrows_len, prL_len, blR_len, stK_len, inh1_len, st0_len, status32_len]; omega) | (simp; done) | (simp; omega)) (by first | exact irow_get _ _ | rfl)) rfl (Int.toNat _) (Int.toNat_of_nonneg (by omega)).symm (by omega) (by first | exact (Nat.zero_add _).trans (Nat.mul_one _) | exact Nat.zero_add _ | rfl | omega)) ?_
      refine DL_c (op_stR _ _ inferInstance rfl (bun_row (b := ⟨(100, 0), true, 29, 3, 1000, _⟩) rfl (by rfl) rfl (by first | omega | assumption | (simp only [isl_len, bsl_len, psl_len, mrows_len, nsl_len, ws_len, List.length_map, ul_len, psl_len, isl_len, nrows_len, prL_len, blR_len, stK_len, inh1_len, st0_len, status32_len]; omega) | (simp; done) | (simp; omega)) (by first | exact irow_get _ _ | rfl)) rfl rfl rfl (by first | exact Nat.le_of_ble_eq_true rfl | (simp only [isl_len, bsl_len, psl_len, mrows_len, nsl_len, ws_len, List.length_map, ul_len, psl_len, isl_len, nrows_len, prL_len, blR_len, stK_len, inh1_len, st0_len, status32_len, List.length_cons, List.length_nil]; omega) | (simp; done) | (simp; omega)) rfl) ?_
      refine DL_nil (hK16 _ ?_)
      clear hK16; try clear K16
      refine D_region ?_
      refine DL_c (op_mv _ (rfl : _ = AV.v (.int _ _))) ?_
      first
        | refine DL_c (op_add _ _ rfl rfl (i64w (by omega))) ?_
        | refine DL_c (op_add _ _ rfl rfl rfl) ?_
      refine DL_c (op_as _ (rfl : _ = AV.v (.int _ _))) ?_
      refine DL_nil ?_
      refine ⟨(y.1 + 1, iset y.2 z.1 y.1 (z.1 : Int)), ?_, ?_, ?_⟩
      · exact ⟨by simp only; omega, hyS.set _ _ _⟩
      · skip
        refine Le.putB (z.1) [] [] rfl ?_ ?_ trivial trivial (by kernel_rfl) ?_ ?_ rfl rfl bun_self (by first | exact fun _ _ => rfl | exact fun j hj => bun_other hj | exact fun j hj => aft_other hj) (by kernel_rfl) (fun _ => rfl)
        · exact ⟨(by repeat' (first | exact Lv.v | exact Lv.sl | exact Lv.fp | exact lvRr (id := (100, 0)) rfl rfl | exact lvPr (id := (100, 0)) rfl | exact lvRr rfl rfl | exact lvPr rfl | exact Lv.mp | exact Lv.nil | exact Lv.z | exact Lv.dead | refine Lv.agg rfl ?_ | refine Lv.fn rfl ?_ rfl ?_ | refine Lv.tup rfl ?_ | refine Lv.ifc ?_ | exact lv_nil | refine lv_cons ?_ ?_)), (lvRr (id := (100, 0)) rfl rfl), (by repeat' (first | exact Lv.v | exact Lv.sl | exact Lv.fp | exact lvRr (id := (100, 0)) rfl rfl | exact lvPr (id := (100, 0)) rfl | exact lvRr rfl rfl | exact lvPr rfl | exact Lv.mp | exact Lv.nil | exact Lv.z | exact Lv.dead | refine Lv.agg rfl ?_ | refine Lv.fn rfl ?_ rfl ?_ | refine Lv.tup rfl ?_ | refine Lv.ifc ?_ | exact lv_nil | refine lv_cons ?_ ?_)), (by repeat' (first | exact Lv.v | exact Lv.sl | exact Lv.fp | exact lvRr (id := (100, 0)) rfl rfl | exact lvPr (id := (100, 0)) rfl | exact lvRr rfl rfl | exact lvPr rfl | exact Lv.mp | exact Lv.nil | exact Lv.z | exact Lv.dead | refine Lv.agg rfl ?_ | refine Lv.fn rfl ?_ rfl ?_ | refine Lv.tup rfl ?_ | refine Lv.ifc ?_ | exact lv_nil | refine lv_cons ?_ ?_)), (by repeat' (first | exact Lv.v | exact Lv.sl | exact Lv.fp | exact lvRr (id := (100, 0)) rfl rfl | exact lvPr (id := (100, 0)) rfl | exact lvRr rfl rfl | exact lvPr rfl | exact Lv.mp | exact Lv.nil | exact Lv.z | exact Lv.dead | refine Lv.agg rfl ?_ | refine Lv.fn rfl ?_ rfl ?_ | refine Lv.tup rfl ?_ | refine Lv.ifc ?_ | exact lv_nil | refine lv_cons ?_ ?_)), (lvI (by first | rfl | omega | (simp; done) | (simp; omega) | assumption)), trivial⟩
        · exact trivial
        · first | exact iput (by omega) | exact iputL (by omega)
        · first | exact iput (by omega) | exact iputL (by omega)
      · simp only; omega
    · skip
      refine D_exit ?_
      refine id (hK12 _ ?_)
      clear hK12; try clear K12
      refine D_seq fun K17 hK17 => ?_
      refine D_region ?_
      refine DL_c (op_mv _ (rfl : _ = AV.fp _ _)) ?_
      refine DL_c (op_mv _ (rfl : _ = AV.v (.int _ _))) ?_
      refine DL_c (op_callR inferInstance [((0, 8), (51, 0))] ?_ ((hao z.1 (by omega)).toI) trivial ⟨rfl, trivial⟩ (by kernel_rfl)) ?_
      · repeat' (first | exact argsR_nil | refine argsR_cons ?_ ?_ | exact Lv.v | exact lvI (by assumption) | exact lvI (by omega) | exact Lv.sl | exact Lv.fp | exact Lv.nil | exact lvRr rfl rfl | exact lvPr rfl | refine Lv.agg rfl ?_ | refine Lv.fn rfl ?_ rfl ?_ | refine Lv.ifc ?_ | exact lv_nil | refine lv_cons ?_ ?_)
      refine DL_c (op_as _ (rfl : _ = AV.ref _ _ _)) ?_
      refine DL_nil (hK17 _ ?_)
      clear hK17; try clear K17
      refine D_seq fun K18 hK18 => ?_
      refine D_seq fun K19 hK19 => ?_
      refine D_region ?_
      refine DL_c (op_as _ (rfl : _ = AV.v (.int _ _))) ?_
      refine DL_nil (hK19 _ ?_)
      clear hK19; try clear K19
      refine D_block ?_
      refine D_loopLB (α := Nat) (fun i => i ≤ (els (A.getD z.1 0)).length) 108 [(0, _), (5, _), (6, _), (7, _), (9, _), (11, _)] [] (fun i => [(12, .v (.int .i64 (i : Int)))]) (fun i => [((51, 0), .row 3 1 (isl (fillN (els (A.getD z.1 0)) 77 i)))]) (fun i => ⟨(100, 0), true, 29, 3, 1000, _⟩) [] [] (fun i => (els (A.getD z.1 0)).length - i) 0 ?_ (by
        refine Le.keepB [] [] rfl ?_ ?_ trivial trivial (by kernel_rfl) rfl rfl rfl (fun _ => rfl) (by kernel_rfl) (fun _ => rfl)
        · exact ⟨(by repeat' (first | exact Lv.v | exact Lv.sl | exact Lv.fp | exact lvRr (id := (51, 0)) rfl rfl | exact lvPr (id := (51, 0)) rfl | exact lvRr (id := (100, 0)) rfl rfl | exact lvPr (id := (100, 0)) rfl | exact lvRr rfl rfl | exact lvPr rfl | exact Lv.mp | exact Lv.nil | exact Lv.z | exact Lv.dead | refine Lv.agg rfl ?_ | refine Lv.fn rfl ?_ rfl ?_ | refine Lv.tup rfl ?_ | refine Lv.ifc ?_ | exact lv_nil | refine lv_cons ?_ ?_)), (lvRr (id := (100, 0)) rfl rfl), (by repeat' (first | exact Lv.v | exact Lv.sl | exact Lv.fp | exact lvRr (id := (51, 0)) rfl rfl | exact lvPr (id := (51, 0)) rfl | exact lvRr (id := (100, 0)) rfl rfl | exact lvPr (id := (100, 0)) rfl | exact lvRr rfl rfl | exact lvPr rfl | exact Lv.mp | exact Lv.nil | exact Lv.z | exact Lv.dead | refine Lv.agg rfl ?_ | refine Lv.fn rfl ?_ rfl ?_ | refine Lv.tup rfl ?_ | refine Lv.ifc ?_ | exact lv_nil | refine lv_cons ?_ ?_)), (by repeat' (first | exact Lv.v | exact Lv.sl | exact Lv.fp | exact lvRr (id := (51, 0)) rfl rfl | exact lvPr (id := (51, 0)) rfl | exact lvRr (id := (100, 0)) rfl rfl | exact lvPr (id := (100, 0)) rfl | exact lvRr rfl rfl | exact lvPr rfl | exact Lv.mp | exact Lv.nil | exact Lv.z | exact Lv.dead | refine Lv.agg rfl ?_ | refine Lv.fn rfl ?_ rfl ?_ | refine Lv.tup rfl ?_ | refine Lv.ifc ?_ | exact lv_nil | refine lv_cons ?_ ?_)), (by repeat' (first | exact Lv.v | exact Lv.sl | exact Lv.fp | exact lvRr (id := (51, 0)) rfl rfl | exact lvPr (id := (51, 0)) rfl | exact lvRr (id := (100, 0)) rfl rfl | exact lvPr (id := (100, 0)) rfl | exact lvRr rfl rfl | exact lvPr rfl | exact Lv.mp | exact Lv.nil | exact Lv.z | exact Lv.dead | refine Lv.agg rfl ?_ | refine Lv.fn rfl ?_ rfl ?_ | refine Lv.tup rfl ?_ | refine Lv.ifc ?_ | exact lv_nil | refine lv_cons ?_ ?_)), (lvRr (id := (51, 0)) rfl rfl), (lvI (by first | rfl | omega | (simp; done) | (simp; omega) | assumption)), trivial⟩
        · exact ⟨(obR rfl rfl rfl (by rw [← fillN_zero])), trivial⟩) ?_
      · first | omega | trivial | exact ⟨by omega, by omega⟩
      intro i hi
      have hel := els_len (A.getD z.1 0)
      have hfl := fillN_len (els (A.getD z.1 0)) 77 i (by omega)
      refine D_seq fun K20 hK20 => ?_
      refine D_seq fun K21 hK21 => ?_
      refine D_region ?_
      refine DL_c (op_mv _ (rfl : _ = AV.v (.int _ _))) ?_
      refine DL_c (op_mv _ (rfl : _ = AV.ref _ _ _)) ?_
      first
        | refine DL_c (op_lenR _ inferInstance rfl rfl) ?_
        | refine DL_c (op_lenB _ inferInstance rfl rfl) ?_
      first
        | refine DL_c (op_lss _ _ rfl rfl (by assumption)) ?_
        | refine DL_c (op_lss _ _ rfl rfl rfl) ?_
      refine DL_nil (hK21 _ ?_)
      clear hK21; try clear K21
      refine D_splitC rfl (fun hc61 => ?_) (fun hc61 => ?_)
      · skip
        refine D_skip (hK20 _ ?_)
        clear hK20; try clear K20
        refine D_seq fun K22 hK22 => ?_
        refine D_block ?_
        refine D_region ?_
        refine DL_c (op_mv _ (rfl : _ = AV.ref _ _ _)) ?_
        refine DL_c (op_mv _ (rfl : _ = AV.v (.int _ _))) ?_
        first
          | refine DL_c (op_ixR _ _ inferInstance rfl rfl rfl _ rfl (by omega) (by first | exact (Nat.zero_add _).trans (Nat.mul_one _) | exact Nat.zero_add _ | rfl | omega)) ?_
          | refine DL_c (op_ixR _ _ inferInstance rfl rfl rfl (Int.toNat _) (Int.toNat_of_nonneg (by omega)).symm (by omega) (by first | exact (Nat.zero_add _).trans (Nat.mul_one _) | exact Nat.zero_add _ | rfl | omega)) ?_
        first
          | refine DL_c (op_stB _ _ inferInstance rfl rfl rfl rfl (Nat.le_of_ble_eq_true rfl) rfl) ?_
          | refine DL_c (op_stR _ _ inferInstance rfl rfl rfl rfl rfl (by first | exact Nat.le_of_ble_eq_true rfl | (simp only [isl_len, bsl_len, psl_len, mrows_len, nsl_len, ws_len, List.length_map, ul_len, psl_len, isl_len, nrows_len, prL_len, blR_len, stK_len, inh1_len, st0_len, status32_len, List.length_cons, List.length_nil]; omega) | (simp; done) | (simp; omega)) rfl) ?_
        refine DL_nil (hK22 _ ?_)
        clear hK22; try clear K22
        refine D_region ?_
        refine DL_c (op_mv _ (rfl : _ = AV.v (.int _ _))) ?_
        first
          | refine DL_c (op_add _ _ rfl rfl (i64w (by omega))) ?_
          | refine DL_c (op_add _ _ rfl rfl rfl) ?_
        refine DL_c (op_as _ (rfl : _ = AV.v (.int _ _))) ?_
        refine DL_nil ?_
        refine ⟨i + 1, ?_, ?_, ?_⟩
        · first | omega | trivial | exact ⟨by omega, by omega⟩
        · skip
          refine Le.keepB [] [] rfl ?_ ?_ trivial trivial (by kernel_rfl) rfl rfl rfl (fun _ => rfl) (by kernel_rfl) (fun _ => rfl)
          · exact ⟨(by repeat' (first | exact Lv.v | exact Lv.sl | exact Lv.fp | exact lvRr (id := (51, 0)) rfl rfl | exact lvPr (id := (51, 0)) rfl | exact lvRr (id := (100, 0)) rfl rfl | exact lvPr (id := (100, 0)) rfl | exact lvRr rfl rfl | exact lvPr rfl | exact Lv.mp | exact Lv.nil | exact Lv.z | exact Lv.dead | refine Lv.agg rfl ?_ | refine Lv.fn rfl ?_ rfl ?_ | refine Lv.tup rfl ?_ | refine Lv.ifc ?_ | exact lv_nil | refine lv_cons ?_ ?_)), (lvRr (id := (100, 0)) rfl rfl), (by repeat' (first | exact Lv.v | exact Lv.sl | exact Lv.fp | exact lvRr (id := (51, 0)) rfl rfl | exact lvPr (id := (51, 0)) rfl | exact lvRr (id := (100, 0)) rfl rfl | exact lvPr (id := (100, 0)) rfl | exact lvRr rfl rfl | exact lvPr rfl | exact Lv.mp | exact Lv.nil | exact Lv.z | exact Lv.dead | refine Lv.agg rfl ?_ | refine Lv.fn rfl ?_ rfl ?_ | refine Lv.tup rfl ?_ | refine Lv.ifc ?_ | exact lv_nil | refine lv_cons ?_ ?_)), (by repeat' (first | exact Lv.v | exact Lv.sl | exact Lv.fp | exact lvRr (id := (51, 0)) rfl rfl | exact lvPr (id := (51, 0)) rfl | exact lvRr (id := (100, 0)) rfl rfl | exact lvPr (id := (100, 0)) rfl | exact lvRr rfl rfl | exact lvPr rfl | exact Lv.mp | exact Lv.nil | exact Lv.z | exact Lv.dead | refine Lv.agg rfl ?_ | refine Lv.fn rfl ?_ rfl ?_ | refine Lv.tup rfl ?_ | refine Lv.ifc ?_ | exact lv_nil | refine lv_cons ?_ ?_)), (by repeat' (first | exact Lv.v | exact Lv.sl | exact Lv.fp | exact lvRr (id := (51, 0)) rfl rfl | exact lvPr (id := (51, 0)) rfl | exact lvRr (id := (100, 0)) rfl rfl | exact lvPr (id := (100, 0)) rfl | exact lvRr rfl rfl | exact lvPr rfl | exact Lv.mp | exact Lv.nil | exact Lv.z | exact Lv.dead | refine Lv.agg rfl ?_ | refine Lv.fn rfl ?_ rfl ?_ | refine Lv.tup rfl ?_ | refine Lv.ifc ?_ | exact lv_nil | refine lv_cons ?_ ?_)), (lvRr (id := (51, 0)) rfl rfl), (lvI (by first | rfl | omega | (simp; done) | (simp; omega) | assumption)), trivial⟩
          · exact ⟨(obR rfl rfl rfl (by rw [isl_put _ _ _ (by omega), fillN_succ (by omega)])), trivial⟩
        · omega
      · skip
        refine D_exit ?_
        refine id (hK18 _ ?_)
        clear hK18; try clear K18
        refine D_seq fun K23 hK23 => ?_
        refine D_region ?_
        refine DL_c (op_mv _ (rfl : _ = AV.fp _ _)) ?_
        refine DL_c (op_mv _ (rfl : _ = AV.v (.int _ _))) ?_
        refine DL_c (op_callR inferInstance [((0, 8), (52, 0))] ?_ ((hpo z.1 (by omega)).toI) trivial ⟨rfl, trivial⟩ (by kernel_rfl)) ?_
        · repeat' (first | exact argsR_nil | refine argsR_cons ?_ ?_ | exact Lv.v | exact lvI (by assumption) | exact lvI (by omega) | exact Lv.sl | exact Lv.fp | exact Lv.nil | exact lvRr rfl rfl | exact lvPr rfl | refine Lv.agg rfl ?_ | refine Lv.fn rfl ?_ rfl ?_ | refine Lv.ifc ?_ | exact lv_nil | refine lv_cons ?_ ?_)
        refine DL_c (op_as _ (rfl : _ = AV.ref _ _ _)) ?_
        refine DL_nil (hK23 _ ?_)
        clear hK23; try clear K23
        refine D_seq fun K24 hK24 => ?_
        refine D_region ?_
        refine DL_c (op_as _ (rfl : _ = AV.v (.int _ _))) ?_
        refine DL_nil (hK24 _ ?_)
        clear hK24; try clear K24
        refine D_block ?_
        refine D_loopLB (α := Nat) (fun i => i ≤ (els (P.getD z.1 0)).length) 108 [(0, _), (5, _), (6, _), (7, _), (9, _), (13, _)] [] (fun i => [(14, .v (.int .i64 (i : Int)))]) (fun i => [((52, 0), .row 3 1 (isl (fillN (els (P.getD z.1 0)) 77 i)))]) (fun i => ⟨(100, 0), true, 29, 3, 1000, _⟩) [] [] (fun i => (els (P.getD z.1 0)).length - i) 0 ?_ (by
          refine Le.keepB [] [] rfl ?_ ?_ trivial trivial (by kernel_rfl) rfl rfl rfl (fun _ => rfl) (by kernel_rfl) (fun _ => rfl)
          · exact ⟨(by repeat' (first | exact Lv.v | exact Lv.sl | exact Lv.fp | exact lvRr (id := (51, 0)) rfl rfl | exact lvPr (id := (51, 0)) rfl | exact lvRr (id := (52, 0)) rfl rfl | exact lvPr (id := (52, 0)) rfl | exact lvRr (id := (100, 0)) rfl rfl | exact lvPr (id := (100, 0)) rfl | exact lvRr rfl rfl | exact lvPr rfl | exact Lv.mp | exact Lv.nil | exact Lv.z | exact Lv.dead | refine Lv.agg rfl ?_ | refine Lv.fn rfl ?_ rfl ?_ | refine Lv.tup rfl ?_ | refine Lv.ifc ?_ | exact lv_nil | refine lv_cons ?_ ?_)), (lvRr (id := (100, 0)) rfl rfl), (by repeat' (first | exact Lv.v | exact Lv.sl | exact Lv.fp | exact lvRr (id := (51, 0)) rfl rfl | exact lvPr (id := (51, 0)) rfl | exact lvRr (id := (52, 0)) rfl rfl | exact lvPr (id := (52, 0)) rfl | exact lvRr (id := (100, 0)) rfl rfl | exact lvPr (id := (100, 0)) rfl | exact lvRr rfl rfl | exact lvPr rfl | exact Lv.mp | exact Lv.nil | exact Lv.z | exact Lv.dead | refine Lv.agg rfl ?_ | refine Lv.fn rfl ?_ rfl ?_ | refine Lv.tup rfl ?_ | refine Lv.ifc ?_ | exact lv_nil | refine lv_cons ?_ ?_)), (by repeat' (first | exact Lv.v | exact Lv.sl | exact Lv.fp | exact lvRr (id := (51, 0)) rfl rfl | exact lvPr (id := (51, 0)) rfl | exact lvRr (id := (52, 0)) rfl rfl | exact lvPr (id := (52, 0)) rfl | exact lvRr (id := (100, 0)) rfl rfl | exact lvPr (id := (100, 0)) rfl | exact lvRr rfl rfl | exact lvPr rfl | exact Lv.mp | exact Lv.nil | exact Lv.z | exact Lv.dead | refine Lv.agg rfl ?_ | refine Lv.fn rfl ?_ rfl ?_ | refine Lv.tup rfl ?_ | refine Lv.ifc ?_ | exact lv_nil | refine lv_cons ?_ ?_)), (by repeat' (first | exact Lv.v | exact Lv.sl | exact Lv.fp | exact lvRr (id := (51, 0)) rfl rfl | exact lvPr (id := (51, 0)) rfl | exact lvRr (id := (52, 0)) rfl rfl | exact lvPr (id := (52, 0)) rfl | exact lvRr (id := (100, 0)) rfl rfl | exact lvPr (id := (100, 0)) rfl | exact lvRr rfl rfl | exact lvPr rfl | exact Lv.mp | exact Lv.nil | exact Lv.z | exact Lv.dead | refine Lv.agg rfl ?_ | refine Lv.fn rfl ?_ rfl ?_ | refine Lv.tup rfl ?_ | refine Lv.ifc ?_ | exact lv_nil | refine lv_cons ?_ ?_)), (lvRr (id := (52, 0)) rfl rfl), (lvI (by first | rfl | omega | (simp; done) | (simp; omega) | assumption)), trivial⟩
          · exact ⟨(obR rfl rfl rfl (by rw [← fillN_zero])), trivial⟩) ?_
        · first | omega | trivial | exact ⟨by omega, by omega⟩
        intro i hi
        have hel := els_len (P.getD z.1 0)
        have hfl := fillN_len (els (P.getD z.1 0)) 77 i (by omega)
        refine D_seq fun K25 hK25 => ?_
        refine D_seq fun K26 hK26 => ?_
        refine D_region ?_
        refine DL_c (op_mv _ (rfl : _ = AV.v (.int _ _))) ?_
        refine DL_c (op_mv _ (rfl : _ = AV.ref _ _ _)) ?_
        first
          | refine DL_c (op_lenR _ inferInstance rfl rfl) ?_
          | refine DL_c (op_lenB _ inferInstance rfl rfl) ?_
        first
          | refine DL_c (op_lss _ _ rfl rfl (by assumption)) ?_
          | refine DL_c (op_lss _ _ rfl rfl rfl) ?_
        refine DL_nil (hK26 _ ?_)
        clear hK26; try clear K26
        refine D_splitC rfl (fun hc73 => ?_) (fun hc73 => ?_)
        · skip
          refine D_skip (hK25 _ ?_)
          clear hK25; try clear K25
          refine D_seq fun K27 hK27 => ?_
          refine D_block ?_
          refine D_region ?_
          refine DL_c (op_mv _ (rfl : _ = AV.ref _ _ _)) ?_
          refine DL_c (op_mv _ (rfl : _ = AV.v (.int _ _))) ?_
          first
            | refine DL_c (op_ixR _ _ inferInstance rfl rfl rfl _ rfl (by omega) (by first | exact (Nat.zero_add _).trans (Nat.mul_one _) | exact Nat.zero_add _ | rfl | omega)) ?_
            | refine DL_c (op_ixR _ _ inferInstance rfl rfl rfl (Int.toNat _) (Int.toNat_of_nonneg (by omega)).symm (by omega) (by first | exact (Nat.zero_add _).trans (Nat.mul_one _) | exact Nat.zero_add _ | rfl | omega)) ?_
          first
            | refine DL_c (op_stB _ _ inferInstance rfl rfl rfl rfl (Nat.le_of_ble_eq_true rfl) rfl) ?_
            | refine DL_c (op_stR _ _ inferInstance rfl rfl rfl rfl rfl (by first | exact Nat.le_of_ble_eq_true rfl | (simp only [isl_len, bsl_len, psl_len, mrows_len, nsl_len, ws_len, List.length_map, ul_len, psl_len, isl_len, nrows_len, prL_len, blR_len, stK_len, inh1_len, st0_len, status32_len, List.length_cons, List.length_nil]; omega) | (simp; done) | (simp; omega)) rfl) ?_
          refine DL_nil (hK27 _ ?_)
          clear hK27; try clear K27
          refine D_region ?_
          refine DL_c (op_mv _ (rfl : _ = AV.v (.int _ _))) ?_
          first
            | refine DL_c (op_add _ _ rfl rfl (i64w (by omega))) ?_
            | refine DL_c (op_add _ _ rfl rfl rfl) ?_
          refine DL_c (op_as _ (rfl : _ = AV.v (.int _ _))) ?_
          refine DL_nil ?_
          refine ⟨i + 1, ?_, ?_, ?_⟩
          · first | omega | trivial | exact ⟨by omega, by omega⟩
          · skip
            refine Le.keepB [] [] rfl ?_ ?_ trivial trivial (by kernel_rfl) rfl rfl rfl (fun _ => rfl) (by kernel_rfl) (fun _ => rfl)
            · exact ⟨(by repeat' (first | exact Lv.v | exact Lv.sl | exact Lv.fp | exact lvRr (id := (52, 0)) rfl rfl | exact lvPr (id := (52, 0)) rfl | exact lvRr (id := (100, 0)) rfl rfl | exact lvPr (id := (100, 0)) rfl | exact lvRr rfl rfl | exact lvPr rfl | exact Lv.mp | exact Lv.nil | exact Lv.z | exact Lv.dead | refine Lv.agg rfl ?_ | refine Lv.fn rfl ?_ rfl ?_ | refine Lv.tup rfl ?_ | refine Lv.ifc ?_ | exact lv_nil | refine lv_cons ?_ ?_)), (lvRr (id := (100, 0)) rfl rfl), (by repeat' (first | exact Lv.v | exact Lv.sl | exact Lv.fp | exact lvRr (id := (52, 0)) rfl rfl | exact lvPr (id := (52, 0)) rfl | exact lvRr (id := (100, 0)) rfl rfl | exact lvPr (id := (100, 0)) rfl | exact lvRr rfl rfl | exact lvPr rfl | exact Lv.mp | exact Lv.nil | exact Lv.z | exact Lv.dead | refine Lv.agg rfl ?_ | refine Lv.fn rfl ?_ rfl ?_ | refine Lv.tup rfl ?_ | refine Lv.ifc ?_ | exact lv_nil | refine lv_cons ?_ ?_)), (by repeat' (first | exact Lv.v | exact Lv.sl | exact Lv.fp | exact lvRr (id := (52, 0)) rfl rfl | exact lvPr (id := (52, 0)) rfl | exact lvRr (id := (100, 0)) rfl rfl | exact lvPr (id := (100, 0)) rfl | exact lvRr rfl rfl | exact lvPr rfl | exact Lv.mp | exact Lv.nil | exact Lv.z | exact Lv.dead | refine Lv.agg rfl ?_ | refine Lv.fn rfl ?_ rfl ?_ | refine Lv.tup rfl ?_ | refine Lv.ifc ?_ | exact lv_nil | refine lv_cons ?_ ?_)), (by repeat' (first | exact Lv.v | exact Lv.sl | exact Lv.fp | exact lvRr (id := (52, 0)) rfl rfl | exact lvPr (id := (52, 0)) rfl | exact lvRr (id := (100, 0)) rfl rfl | exact lvPr (id := (100, 0)) rfl | exact lvRr rfl rfl | exact lvPr rfl | exact Lv.mp | exact Lv.nil | exact Lv.z | exact Lv.dead | refine Lv.agg rfl ?_ | refine Lv.fn rfl ?_ rfl ?_ | refine Lv.tup rfl ?_ | refine Lv.ifc ?_ | exact lv_nil | refine lv_cons ?_ ?_)), (lvRr (id := (52, 0)) rfl rfl), (lvI (by first | rfl | omega | (simp; done) | (simp; omega) | assumption)), trivial⟩
            · exact ⟨(obR rfl rfl rfl (by rw [isl_put _ _ _ (by omega), fillN_succ (by omega)])), trivial⟩
          · omega
        · skip
          refine D_exit ?_
          refine id (hK11 _ ?_)
          clear hK11; try clear K11
          refine D_region ?_
          refine DL_c (op_mv _ (rfl : _ = AV.v (.int _ _))) ?_
          first
            | refine DL_c (op_add _ _ rfl rfl (i64w (by omega))) ?_
            | refine DL_c (op_add _ _ rfl rfl rfl) ?_
          refine DL_c (op_as _ (rfl : _ = AV.v (.int _ _))) ?_
          refine DL_nil ?_
          refine ⟨(z.1 + 1, y.2), ?_, ?_, ?_⟩
          · exact ⟨by simp only; omega, hyS⟩
          · skip
            refine Le.keepB [] [] rfl ?_ ?_ trivial trivial (by kernel_rfl) ?_ rfl rfl (fun _ => rfl) (by kernel_rfl) (fun _ => rfl)
            · exact ⟨(by repeat' (first | exact Lv.v | exact Lv.sl | exact Lv.fp | exact lvRr (id := (52, 0)) rfl rfl | exact lvPr (id := (52, 0)) rfl | exact lvRr (id := (100, 0)) rfl rfl | exact lvPr (id := (100, 0)) rfl | exact lvRr rfl rfl | exact lvPr rfl | exact Lv.mp | exact Lv.nil | exact Lv.z | exact Lv.dead | refine Lv.agg rfl ?_ | refine Lv.fn rfl ?_ rfl ?_ | refine Lv.tup rfl ?_ | refine Lv.ifc ?_ | exact lv_nil | refine lv_cons ?_ ?_)), (lvRr (id := (100, 0)) rfl rfl), (by repeat' (first | exact Lv.v | exact Lv.sl | exact Lv.fp | exact lvRr (id := (52, 0)) rfl rfl | exact lvPr (id := (52, 0)) rfl | exact lvRr (id := (100, 0)) rfl rfl | exact lvPr (id := (100, 0)) rfl | exact lvRr rfl rfl | exact lvPr rfl | exact Lv.mp | exact Lv.nil | exact Lv.z | exact Lv.dead | refine Lv.agg rfl ?_ | refine Lv.fn rfl ?_ rfl ?_ | refine Lv.tup rfl ?_ | refine Lv.ifc ?_ | exact lv_nil | refine lv_cons ?_ ?_)), (by repeat' (first | exact Lv.v | exact Lv.sl | exact Lv.fp | exact lvRr (id := (52, 0)) rfl rfl | exact lvPr (id := (52, 0)) rfl | exact lvRr (id := (100, 0)) rfl rfl | exact lvPr (id := (100, 0)) rfl | exact lvRr rfl rfl | exact lvPr rfl | exact Lv.mp | exact Lv.nil | exact Lv.z | exact Lv.dead | refine Lv.agg rfl ?_ | refine Lv.fn rfl ?_ rfl ?_ | refine Lv.tup rfl ?_ | refine Lv.ifc ?_ | exact lv_nil | refine lv_cons ?_ ?_)), (lvI (by first | rfl | omega | (simp; done) | (simp; omega) | assumption)), trivial⟩
            · exact trivial
            · first | rfl | (simp; done)
          · simp only; omega
  · skip
    refine D_exit ?_
    refine id (hK7 _ ?_)
    clear hK7; try clear K7
    refine D_seq fun K28 hK28 => ?_
    refine D_le (Le.mkJ (n := 108) (slots := [(0, .sl m (isl l)), (6, .sl n (isl st)), (7, .fp 0 (gra n P A))]) (obs := []) (I := []) (Pn := []) [] [] rfl ⟨lv_id _, lv_id _, lv_id _, trivial⟩ trivial trivial trivial (by kernel_rfl)) ?_
    refine D_region ?_
    refine DL_c (op_mv _ (rfl : _ = AV.sl _ _)) ?_
    refine DL_c (op_callH inferInstance (by repeat' (first | exact argsLv_nil | refine argsLv_cons ?_ ?_ | exact Lv.v | exact lvI (by omega) | exact Lv.sl | exact Lv.fp | exact Lv.nil | refine Lv.agg rfl ?_ | refine Lv.fn rfl ?_ rfl ?_ | exact lv_nil | refine lv_cons ?_ ?_ | exact Lv.z0)) (hP) rfl rfl) ?_
    refine DL_c (op_as _ (rfl : _ = AV.sl _ _)) ?_
    refine DL_nil (hK28 _ ?_)
    clear hK28; try clear K28
    refine D_seq fun K29 hK29 => ?_
    refine D_seq fun K30 hK30 => ?_
    refine D_region ?_
    refine DL_c (op_as _ (rfl : _ = AV.v (.int _ _))) ?_
    refine DL_nil (hK30 _ ?_)
    clear hK30; try clear K30
    refine D_block ?_
    refine D_loopL (α := Nat) (fun v => v ≤ n) 108 [(6, _), (7, _), (15, _)] [] (fun v => [(16, .v (.int .i64 (v : Int)))]) (fun v => []) [] [] (fun v => n - v) 0 ?_ (by
      refine Le.mkJ [] [] rfl ?_ ?_ trivial trivial ?_
      · exact ⟨(iS rfl), (iF rfl), (iS rfl), (lvI (by first | rfl | omega | (simp; done) | (simp; omega) | assumption)), trivial⟩
      · exact trivial
      · kernel_rfl) ?_
    · first | omega | trivial | exact ⟨by omega, by omega⟩
    intro v hv
    refine D_seq fun K31 hK31 => ?_
    refine D_seq fun K32 hK32 => ?_
    refine D_region ?_
    refine DL_c (op_mv _ (rfl : _ = AV.v (.int _ _))) ?_
    refine DL_c (op_mv _ (rfl : _ = AV.sl _ _)) ?_
    refine DL_c (op_lenS _ inferInstance rfl) ?_
    first
      | refine DL_c (op_lss _ _ rfl rfl (by assumption)) ?_
      | refine DL_c (op_lss _ _ rfl rfl rfl) ?_
    refine DL_nil (hK32 _ ?_)
    clear hK32; try clear K32
    refine D_splitC rfl (fun hc84 => ?_) (fun hc84 => ?_)
    · skip
      refine D_skip (hK31 _ ?_)
      clear hK31; try clear K31
      refine D_seq fun K33 hK33 => ?_
      refine D_block ?_
      refine D_seq fun K34 hK34 => ?_
      refine D_region ?_
      refine DL_c (op_mv _ (rfl : _ = AV.fp _ _)) ?_
      refine DL_c (op_mv _ (rfl : _ = AV.v (.int _ _))) ?_
      refine DL_c (op_mv _ (rfl : _ = AV.sl _ _)) ?_
      refine DL_c (op_callH inferInstance (by repeat' (first | exact argsLv_nil | refine argsLv_cons ?_ ?_ | exact Lv.v | exact lvI (by omega) | exact Lv.sl | exact Lv.fp | exact Lv.nil | refine Lv.agg rfl ?_ | refine Lv.fn rfl ?_ rfl ?_ | exact lv_nil | refine lv_cons ?_ ?_ | exact Lv.z0)) (hM1 _) rfl rfl) ?_
      refine DL_c (op_mv _ (rfl : _ = AV.sl _ _)) ?_
      refine DL_c (op_mv _ (rfl : _ = AV.v (.int _ _))) ?_
      refine DL_c (op_mv _ (rfl : _ = AV.sl _ _)) ?_
      refine DL_c (op_callH inferInstance (by repeat' (first | exact argsLv_nil | refine argsLv_cons ?_ ?_ | exact Lv.v | exact lvI (by omega) | exact Lv.sl | exact Lv.fp | exact Lv.nil | refine Lv.agg rfl ?_ | refine Lv.fn rfl ?_ rfl ?_ | exact lv_nil | refine lv_cons ?_ ?_ | exact Lv.z0)) (hM2 _) rfl rfl) ?_
      refine DL_c (op_callH inferInstance (by repeat' (first | exact argsLv_nil | refine argsLv_cons ?_ ?_ | exact Lv.v | exact lvI (by omega) | exact Lv.sl | exact Lv.fp | exact Lv.nil | refine Lv.agg rfl ?_ | refine Lv.fn rfl ?_ rfl ?_ | exact lv_nil | refine lv_cons ?_ ?_ | exact Lv.z0)) (hsame _) rfl rfl) ?_
      refine DL_c (op_not _ rfl rfl) ?_
      refine DL_c (op_mv _ (rfl : _ = AV.v (.bool _))) ?_
      refine DL_cy rfl rfl (op_mv _ (rfl : _ = AV.fp _ _)) ?_
      refine DL_cy rfl rfl (op_mv _ (rfl : _ = AV.v (.int _ _))) ?_
      refine DL_cy rfl rfl (op_callH inferInstance (by repeat' (first | exact argsLv_nil | refine argsLv_cons ?_ ?_ | exact Lv.v | exact lvI (by omega) | exact Lv.sl | exact Lv.fp | exact Lv.nil | refine Lv.agg rfl ?_ | refine Lv.fn rfl ?_ rfl ?_ | exact lv_nil | refine lv_cons ?_ ?_ | exact Lv.z0)) (hA1 _) rfl rfl) ?_
      refine DL_cy rfl rfl (op_mv _ (rfl : _ = AV.sl _ _)) ?_
      refine DL_cy rfl rfl (op_mv _ (rfl : _ = AV.v (.int _ _))) ?_
      refine DL_cy rfl rfl (op_callH inferInstance (by repeat' (first | exact argsLv_nil | refine argsLv_cons ?_ ?_ | exact Lv.v | exact lvI (by omega) | exact Lv.sl | exact Lv.fp | exact Lv.nil | refine Lv.agg rfl ?_ | refine Lv.fn rfl ?_ rfl ?_ | exact lv_nil | refine lv_cons ?_ ?_ | exact Lv.z0)) (hA2 _) rfl rfl) ?_
      refine DL_cy rfl rfl (op_callH inferInstance (by repeat' (first | exact argsLv_nil | refine argsLv_cons ?_ ?_ | exact Lv.v | exact lvI (by omega) | exact Lv.sl | exact Lv.fp | exact Lv.nil | refine Lv.agg rfl ?_ | refine Lv.fn rfl ?_ rfl ?_ | exact lv_nil | refine lv_cons ?_ ?_ | exact Lv.z0)) (hsI _) rfl rfl) ?_
      refine DL_cy rfl rfl (op_not _ rfl rfl) ?_
      refine DL_c (op_pick _ _ _ rfl (rfl : _ = AV.v (.bool _))) ?_
      refine DL_nil (hK34 _ ?_)
      clear hK34; try clear K34
      refine D_cF rfl rfl ?_
      refine D_skip (hK33 _ ?_)
      clear hK33; try clear K33
      refine D_le (σ' := mkStI 108 [(6, _), (7, _), (15, _), (16, _)] [] [] []) (by
        refine Le.mkJ [] [] rfl ?_ ?_ trivial trivial ?_
        · exact ⟨(iS rfl), (iF rfl), (iS rfl), (iV rfl), trivial⟩
        · exact trivial
        · kernel_rfl) ?_
      refine D_region ?_
      refine DL_c (op_mv _ (rfl : _ = AV.v (.int _ _))) ?_
      first
        | refine DL_c (op_add _ _ rfl rfl (i64w (by omega))) ?_
        | refine DL_c (op_add _ _ rfl rfl rfl) ?_
      refine DL_c (op_as _ (rfl : _ = AV.v (.int _ _))) ?_
      refine DL_nil ?_
      refine ⟨v + 1, ?_, ?_, ?_⟩
      · first | omega | trivial | exact ⟨by omega, by omega⟩
      · skip
        refine Le.mkJ [] [] rfl ?_ ?_ trivial trivial ?_
        · exact ⟨(iS rfl), (iF rfl), (iS rfl), (lvI (by first | rfl | omega | (simp; done) | (simp; omega) | assumption)), trivial⟩
        · exact trivial
        · kernel_rfl
      · omega
    · skip
      refine D_exit ?_
      refine id (hK29 _ ?_)
      clear hK29; try clear K29
      refine D_seq fun K35 hK35 => ?_
      refine D_region ?_
      refine DL_c (op_callH inferInstance (by repeat' (first | exact argsLv_nil | refine argsLv_cons ?_ ?_ | exact Lv.v | exact lvI (by omega) | exact Lv.sl | exact Lv.fp | exact Lv.nil | refine Lv.agg rfl ?_ | refine Lv.fn rfl ?_ rfl ?_ | exact lv_nil | refine lv_cons ?_ ?_ | exact Lv.z0)) (livesv_spec) rfl rfl) ?_
      refine DL_c (op_as _ (rfl : _ = AV.v (.bool _))) ?_
      refine DL_nil (hK35 _ ?_)
      clear hK35; try clear K35
      refine D_ret ?_
      refine ret1 (.inr rfl) rfl (.tmp (rfl : _ = AV.v (.bool _))) (Le.out [] [] (lvB ?_) rfl rfl rfl trivial trivial)
      rfl
end Go.Proofs.Ytkbkmngbenohkaa
