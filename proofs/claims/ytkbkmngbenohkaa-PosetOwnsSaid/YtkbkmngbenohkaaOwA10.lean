/- The order's New by the machine. -/
import Derived.Test.YtkbkmngbenohkaaOwA9
import Derived.Test.YtkbkmngbenohkaaOwB5
import Derived.Test.YtkbkmngbenohkaaOwK1
set_option linter.unusedSimpArgs false
set_option linter.unusedVariables false
namespace Go.Proofs.Ytkbkmngbenohkaa
open Go.RowKit

theorem irow_get (M : List (List Int)) (j : Nat) : (M.map isl).getD j [] = isl (M.getD j []) := by
  simp only [List.getD_eq_getElem?_getD, List.getElem?_map]
  cases M[j]? <;> rfl
def nrows (L : List (List Int)) : List PV := L.map fun r => .sl r.length (isl r)
theorem downs_isl (M : List (List Int)) : downs (rowsSl (M.map isl)) = some (nrows M) := by
  rw [downs_rowsSl]
  simp [nrows]
theorem nrows_get (M : List (List Int)) (i : Nat) (h : i < M.length) : (nrows M)[i]? = some (.sl (M.getD i []).length (isl (M.getD i []))) := by simp [nrows, h]
theorem nxt_len (E : Prs) (a : Nat) : (nxt E a).length ≤ E.length := by simp only [nxt, List.length_map]; exact List.length_filter_le _ _
theorem nx_set {n : Nat} {E : Prs} {k : Nat} (hE : inE n E = true) (hk : k < E.length) : (nxL n E (k + 1)).map isl = ((nxL n E k).map isl).set (E.getD k (0, 0)).1.toNat (isl ((nxL n E k).getD (E.getD k (0, 0)).1.toNat []) ++ [.v (.int .i64 (E.getD k (0, 0)).2)]) := by
  rw [nxL_succ hE hk, List.map_set]
  congr 1
  simp [isl]
theorem rows_zero (n : Nat) (E : Prs) : (nxL n E 0).map isl = List.replicate n [] := by rw [nxL_zero]; simp [isl]
theorem getD_mem {l : List Nat} {k : Nat} (h : k < l.length) : l.getD k 0 ∈ l := by
  rw [List.getD_eq_getElem?_getD, List.getElem?_eq_getElem h]; exact List.getElem_mem h
theorem isl_get_set (l : List Int) (k : Nat) (x : Int) (h : k < l.length) : (isl (l.set k x))[k]? = some (.v (.int .i64 x)) := by
  rw [isl_get _ _ (by simpa using h), getD_set]; simp [h]
theorem nsl_isl (l : List Nat) : nsl l = isl (l.map fun (x : Nat) => (x : Int)) := by simp [nsl, isl]
def scells (s : List (List Nat)) : List AV := s.map fun l => .sl l.length (ul l)
@[simp] theorem scells_len (s : List (List Nat)) : (scells s).length = s.length := by simp [scells]
theorem scells_self (s : List (List Nat)) (a : Nat) (x : AV) (h : a < s.length) : ((scells s).set a x)[a]? = some x := List.getElem?_set_self (by simpa using h)
theorem scells_other (s : List (List Nat)) (a b : Nat) (x : AV) (h : b < s.length) (hne : b ≠ a) : ((scells s).set a x)[b]? = some (.sl (s.getD b []).length (ul (s.getD b []))) := by
  rw [List.getElem?_set_ne (Ne.symm hne)]
  simp [scells, h]
theorem scells_done {ρ : Oid → Oid} {σ : St} {F : Oid → Bool} {id : Oid} {e : TypeId} {s : List (List Nat)} {a w : Nat} (hid : σ.ob id = .obj (.row e 1 (ul [w]))) (hF : F id = true) :
    ∀ (j : Nat) (x y : AV), (scells (s.set a [w]))[j]? = some x → ((scells s).set a (.ref id 0 1))[j]? = some y → Lv ρ σ F x y := by
  intro j x y hx hy
  have hj : j < s.length := by have := (List.getElem?_eq_some_iff.1 hx).1; simpa using this
  by_cases hja : j = a
  · subst hja
    rw [List.getElem?_set_self (by simpa using hj)] at hy
    obtain rfl := Option.some.inj hy
    simp only [scells, List.getElem?_map, List.getElem?_set_self hj, Option.map_some, Option.some.injEq] at hx
    subst hx
    exact frz0 hid hF (by simp) rfl
  · rw [List.getElem?_set_ne (Ne.symm hja)] at hy
    simp only [scells, List.getElem?_map, List.getElem?_set_ne (Ne.symm hja)] at hx hy
    rw [hx] at hy
    obtain rfl := Option.some.inj hy
    obtain ⟨l, _, rfl⟩ := Option.map_eq_some_iff.1 hx
    exact .sl
theorem scells_nil {ρ : Oid → Oid} {σ : St} {F : Oid → Bool} (n : Nat) : ∀ (j : Nat) (x y : AV), (scells (List.replicate n []))[j]? = some x → (List.replicate n (AV.v (.slice none 0 0)))[j]? = some y → Lv ρ σ F x y := by
  intro j x y hx hy
  have hj : j < n := by have := (List.getElem?_eq_some_iff.1 hx).1; simpa using this
  simp only [scells, List.getElem?_map, List.getElem?_replicate, hj, if_true, Option.map_some, Option.some.injEq] at hx hy
  subst hx; subst hy
  exact .nil
theorem withins_scells (ids : List Oid) : ∀ s : List (List Nat), AV.withins ids (scells s) = true
  | [] => rfl
  | r :: l => by
    have := withins_scells ids l
    simp only [scells] at this
    simp only [scells, List.map_cons, AV.withins, AV.within, this, Bool.and_self]
theorem withins_set {ids : List Oid} {x : AV} (hx : x.within ids = true) : ∀ (l : List AV) (i : Nat), AV.withins ids l = true → AV.withins ids (l.set i x) = true
  | [], _, h => h
  | a :: l, 0, h => by
    simp only [AV.withins, Bool.and_eq_true] at h
    simp only [List.set_cons_zero, AV.withins, hx, h.2, Bool.and_self]
  | a :: l, i + 1, h => by
    simp only [AV.withins, Bool.and_eq_true] at h
    simp only [List.set_cons_succ, AV.withins, h.1, withins_set hx l i h.2, Bool.and_self]
theorem withins_scells_set (ids : List Oid) (s : List (List Nat)) (i : Nat) (id : Oid) (off n : Nat) (h : inO id ids = true) : AV.withins ids ((scells s).set i (.ref id off n)) = true :=
  withins_set (x := .ref id off n) (by simpa only [AV.within] using h) _ _ (withins_scells ids s)
theorem withins_nils (ids : List Oid) : ∀ n : Nat, AV.withins ids (List.replicate n (.v (.slice none 0 0))) = true
  | 0 => rfl
  | n + 1 => by rw [List.replicate_succ]; simp only [AV.withins, AV.within, withins_nils ids n, Bool.and_self]
theorem downs_scells : ∀ (l : List Nat), downs (scells (l.map fun w => [w])) = some (ws l)
  | [] => rfl
  | w :: l => by
    have := downs_scells l
    simp only [scells] at this
    simp only [scells, List.map_cons, downs, this, AV.down]
    rfl
/-- The rounds of the loop from the row's last to its first. -/
def bzs (n : Nat) (row : List Nat) (h : ∀ x ∈ row, x < n) : List (Int × { a : Nat // a < n }) :=
  (List.range row.length).pmap (fun (k : Nat) hk => ((row.length : Int) - 1 - (k : Int), ⟨row.getD (row.length - 1 - k) 0, hk⟩)) fun k hk => h _ (getD_mem (by rw [List.mem_range] at hk; omega))
theorem bzs_len (n : Nat) (row : List Nat) (h : ∀ x ∈ row, x < n) : (bzs n row h).length = (row.map fun (x : Nat) => (x : Int)).length := by simp [bzs]
theorem bzs_at (n : Nat) (row : List Nat) (h : ∀ x ∈ row, x < n) (k : Nat) (x : Int × { a : Nat // a < n }) (hx : (bzs n row h)[k]? = some x) :
    (#[Value.int .i64 x.1, .int .i64 (x.2.1 : Int)] : Array Value) = #[.int .i64 (((row.map fun (x : Nat) => (x : Int)).length : Int) - 1 - k), .int .i64 (((row.map fun (x : Nat) => (x : Int))[(row.map fun (x : Nat) => (x : Int)).length - 1 - k]?).getD 0)] := by
  obtain ⟨hk, rfl⟩ := List.getElem?_eq_some_iff.1 hx
  have hkl : k < row.length := by simpa [bzs] using hk
  have h2 : row.length - 1 - k < row.length := by omega
  simp [bzs, List.getD_eq_getElem?_getD, h2]
theorem bzs_row (n : Nat) (row : List Nat) (h : ∀ x ∈ row, x < n) : (bzs n row h).map (fun x => x.2.1) = row.reverse := by
  apply List.ext_getElem
  · simp [bzs]
  · intro i h1 h2
    have hi : i < row.length := by simpa using h2
    have h3 : row.length - 1 - i < row.length := by omega
    simp [bzs, List.getD_eq_getElem?_getD, h3]
theorem back_seq' {α : Type} (n : Nat) (xs : List Int) (hn : xs.length = n) (hreach : xs.length * 8 ≤ 140737488351232) (encs : α → Array Value) (zs : List α) (hz : zs.length = xs.length) (henc : ∀ (k : Nat) (x : α), zs[k]? = some x → encs x = #[.int .i64 ((xs.length : Int) - 1 - k), .int .i64 ((xs[xs.length - 1 - k]?).getD 0)]) :
    SeqOk Try.prog 119 (.ptr 0 [.sl n (isl xs)]) encs zs := by
  subst hn
  exact back_seq xs hreach encs zs hz henc
theorem deg_le (E : Prs) (l : List Nat) (b : Nat) : deg E l b ≤ E.length := List.countP_le_length
open Classical in
/-- What the order's New answers. -/
noncomputable def newR (n : Nat) (E : Prs) : AV :=
  if inE n E = false then .tup [.v (.pointer none), .v (.int .i64 6)]
  else if ∃ a, a < n ∧ Clo E a a then .tup [.v (.pointer none), .v (.int .i64 9)]
  else .tup [.fp 0 (ord n (cloW n E)), .v (.int .i64 0)]
set_option maxHeartbeats 4000000 in
theorem new_spec (n : Nat) (hn : n ≤ 64) (m : Nat) (E : Prs) (hm : E.length = m) (h1 : m ≤ 1000000) :
    Spec Try.prog 28 (inSt [.v (.int .i64 (n : Int)), .sl m (psl E)] []) (outSt (newR n E) []) := by
  refine Spec.ofN Try.func28 rfl Try.ntmps28 rfl ?_
  refine D_seq fun K1 hK1 => ?_
  refine D_region ?_
  refine DL_c (op_box (2, 0) _ rfl rfl) ?_
  refine DL_c (op_as _ (rfl : _ = AV.v _)) ?_
  refine DL_c (op_as _ (rfl : _ = AV.v (.int _ _))) ?_
  refine DL_nil (hK1 _ ?_)
  clear hK1; try clear K1
  refine D_seq fun K2 hK2 => ?_
  refine D_block ?_
  refine D_seq fun K3 hK3 => ?_
  refine D_region ?_
  first
    | refine DL_c (op_ldB _ inferInstance rfl rfl (rfl : _ = some (AV.v (.int _ _)))) ?_
    | refine DL_c (op_ldR _ inferInstance rfl rfl (by first | rfl | exact isl_get _ _ (by omega) | exact bsl_get _ _ (by omega) | assumption | exact mrows_get _ _ (by omega) | exact nsl_get _ _ (by omega) | exact psl_get0 _ _ (by omega) | exact psl_get1 _ _ (by omega) | exact nrows_get _ _ (by omega)) rfl) ?_
  first
    | refine DL_c (op_lss _ _ rfl rfl (by assumption)) ?_
    | refine DL_c (op_lss _ _ rfl rfl rfl) ?_
  refine DL_c (op_as _ (rfl : _ = AV.v (.bool _))) ?_
  refine DL_nil (hK3 _ ?_)
  clear hK3; try clear K3
  refine D_splitC rfl (fun hc22 => ?_) (fun hc22 => ?_)
  · skip
    exact absurd  hc22 (by omega)
  · skip
    refine D_seq fun K4 hK4 => ?_
    refine D_region ?_
    first
      | refine DL_c (op_ldB _ inferInstance rfl rfl (rfl : _ = some (AV.v (.int _ _)))) ?_
      | refine DL_c (op_ldR _ inferInstance rfl rfl (by first | rfl | exact isl_get _ _ (by omega) | exact bsl_get _ _ (by omega) | assumption | exact mrows_get _ _ (by omega) | exact nsl_get _ _ (by omega) | exact psl_get0 _ _ (by omega) | exact psl_get1 _ _ (by omega) | exact nrows_get _ _ (by omega)) rfl) ?_
    first
      | refine DL_c (op_gtr _ _ rfl rfl (by assumption)) ?_
      | refine DL_c (op_gtr _ _ rfl rfl rfl) ?_
    refine DL_c (op_as _ (rfl : _ = AV.v (.bool _))) ?_
    refine DL_nil (hK4 _ ?_)
    clear hK4; try clear K4
    refine D_splitC rfl (fun hc25 => ?_) (fun hc25 => ?_)
    · skip
      exact absurd  hc25 (by omega)
    · skip
      refine D_skip (hK2 _ ?_)
      clear hK2; try clear K2
      refine D_seq fun K5 hK5 => ?_
      refine D_region ?_
      first
        | refine DL_c (op_ldB _ inferInstance rfl rfl (rfl : _ = some (AV.v (.int _ _)))) ?_
        | refine DL_c (op_ldR _ inferInstance rfl rfl (by first | rfl | exact isl_get _ _ (by omega) | exact bsl_get _ _ (by omega) | assumption | exact mrows_get _ _ (by omega) | exact nsl_get _ _ (by omega) | exact psl_get0 _ _ (by omega) | exact psl_get1 _ _ (by omega) | exact nrows_get _ _ (by omega)) rfl) ?_
      refine DL_c (op_mkB (29, 0) _ _ inferInstance rfl rfl n rfl rfl (by omega) rfl (rep_nil n)) ?_
      refine DL_c (op_alloc (6, 0) inferInstance rfl rfl) ?_
      refine DL_c (op_stB _ _ inferInstance rfl rfl rfl rfl (Nat.le_of_ble_eq_true rfl) rfl) ?_
      refine DL_nil (hK5 _ ?_)
      clear hK5; try clear K5
      refine D_seq fun K6 hK6 => ?_
      refine D_le (σ' := mkStB 187 [(1, _), (2, _), (6, _)] [((2, 0), _), ((6, 0), _)] ⟨(29, 0), false, 29, 3, 1000, ((nxL n E 0).map isl)⟩ [] []) (by
        refine Le.newB 1000 3 rfl (by kernel_rfl) (fun _ => rfl) (fun _ => rfl) rfl [] rfl ?_ ?_ trivial (by kernel_rfl) rfl ?_
        · exact ⟨(by repeat' (first | exact Lv.v | exact Lv.sl | exact Lv.fp | exact lvRr rfl rfl | exact lvPr rfl | exact Lv.mp | exact Lv.nil | exact Lv.z | exact Lv.dead | refine Lv.agg rfl ?_ | refine Lv.fn rfl ?_ rfl ?_ | refine Lv.tup rfl ?_ | refine Lv.ifc ?_ | exact lv_nil | refine lv_cons ?_ ?_)), (lvPr (id := (2, 0)) rfl), (lvPr (id := (6, 0)) rfl), trivial⟩
        · exact ⟨(obB rfl rfl rfl rfl (by repeat' (first | exact Lv.v | exact Lv.sl | exact Lv.fp | exact lvRr rfl rfl | exact lvPr rfl | exact Lv.mp | exact Lv.nil | exact Lv.z | exact Lv.dead | refine Lv.agg rfl ?_ | refine Lv.fn rfl ?_ rfl ?_ | refine Lv.tup rfl ?_ | refine Lv.ifc ?_ | exact lv_nil | refine lv_cons ?_ ?_))), (obB rfl rfl rfl rfl (by repeat' (first | exact Lv.v | exact Lv.sl | exact Lv.fp | exact lvRr rfl rfl | exact lvPr rfl | exact Lv.mp | exact Lv.nil | exact Lv.z | exact Lv.dead | refine Lv.agg rfl ?_ | refine Lv.fn rfl ?_ rfl ?_ | refine Lv.tup rfl ?_ | refine Lv.ifc ?_ | exact lv_nil | refine lv_cons ?_ ?_))), trivial⟩
        · exact rows_zero n E) ?_
      refine D_region ?_
      first
        | refine DL_c (op_ldB _ inferInstance rfl rfl (rfl : _ = some (AV.v (.int _ _)))) ?_
        | refine DL_c (op_ldR _ inferInstance rfl rfl (by first | rfl | exact isl_get _ _ (by omega) | exact bsl_get _ _ (by omega) | assumption | exact mrows_get _ _ (by omega) | exact nsl_get _ _ (by omega) | exact psl_get0 _ _ (by omega) | exact psl_get1 _ _ (by omega) | exact nrows_get _ _ (by omega)) rfl) ?_
      refine DL_c (op_mk (31, 0) _ _ inferInstance rfl rfl n rfl rfl (by omega) rfl (isl_zeros n)) ?_
      refine DL_c (op_as _ (rfl : _ = AV.ref _ _ _)) ?_
      refine DL_nil (hK6 _ ?_)
      clear hK6; try clear K6
      refine D_seq fun K7 hK7 => ?_
      refine D_seq fun K8 hK8 => ?_
      refine D_region ?_
      refine DL_c (op_mv _ (rfl : _ = AV.sl _ _)) ?_
      refine DL_c (op_lenS _ inferInstance rfl) ?_
      refine DL_c (op_mv _ (rfl : _ = AV.v (.int _ _))) ?_
      refine DL_nil (hK8 _ ?_)
      clear hK8; try clear K8
      refine D_block ?_
      refine D_loopLB (α := Nat) (fun i => i ≤ m ∧ ∀ j, j < i → 0 ≤ (E.getD j (0, 0)).1 ∧ (E.getD j (0, 0)).1 < (n : Int) ∧ 0 ≤ (E.getD j (0, 0)).2 ∧ (E.getD j (0, 0)).2 < (n : Int)) 187 [(1, _), (2, _), (6, _), (7, _), (32, _), (33, _)] [((2, 0), _), ((6, 0), _), ((31, 0), _)] (fun i => [(34, .v (.int .i64 (i : Int)))]) (fun i => []) (fun i => ⟨(29, 0), false, 29, 3, 1000, _⟩) [] [] (fun i => m - i) 0 ?_ (by
        refine Le.keepB [] [] rfl ?_ ?_ trivial trivial (by kernel_rfl) rfl rfl rfl (fun _ => rfl) (by kernel_rfl) (fun _ => rfl)
        · exact ⟨(by repeat' (first | exact Lv.v | exact Lv.sl | exact Lv.fp | exact lvRr (id := (2, 0)) rfl rfl | exact lvPr (id := (2, 0)) rfl | exact lvRr (id := (6, 0)) rfl rfl | exact lvPr (id := (6, 0)) rfl | exact lvRr (id := (31, 0)) rfl rfl | exact lvPr (id := (31, 0)) rfl | exact lvRr (id := (29, 0)) rfl rfl | exact lvPr (id := (29, 0)) rfl | exact lvRr rfl rfl | exact lvPr rfl | exact Lv.mp | exact Lv.nil | exact Lv.z | exact Lv.dead | refine Lv.agg rfl ?_ | refine Lv.fn rfl ?_ rfl ?_ | refine Lv.tup rfl ?_ | refine Lv.ifc ?_ | exact lv_nil | refine lv_cons ?_ ?_)), (lvPr (id := (2, 0)) rfl), (lvPr (id := (6, 0)) rfl), (lvRr (id := (31, 0)) rfl rfl), (by repeat' (first | exact Lv.v | exact Lv.sl | exact Lv.fp | exact lvRr (id := (2, 0)) rfl rfl | exact lvPr (id := (2, 0)) rfl | exact lvRr (id := (6, 0)) rfl rfl | exact lvPr (id := (6, 0)) rfl | exact lvRr (id := (31, 0)) rfl rfl | exact lvPr (id := (31, 0)) rfl | exact lvRr (id := (29, 0)) rfl rfl | exact lvPr (id := (29, 0)) rfl | exact lvRr rfl rfl | exact lvPr rfl | exact Lv.mp | exact Lv.nil | exact Lv.z | exact Lv.dead | refine Lv.agg rfl ?_ | refine Lv.fn rfl ?_ rfl ?_ | refine Lv.tup rfl ?_ | refine Lv.ifc ?_ | exact lv_nil | refine lv_cons ?_ ?_)), (by repeat' (first | exact Lv.v | exact Lv.sl | exact Lv.fp | exact lvRr (id := (2, 0)) rfl rfl | exact lvPr (id := (2, 0)) rfl | exact lvRr (id := (6, 0)) rfl rfl | exact lvPr (id := (6, 0)) rfl | exact lvRr (id := (31, 0)) rfl rfl | exact lvPr (id := (31, 0)) rfl | exact lvRr (id := (29, 0)) rfl rfl | exact lvPr (id := (29, 0)) rfl | exact lvRr rfl rfl | exact lvPr rfl | exact Lv.mp | exact Lv.nil | exact Lv.z | exact Lv.dead | refine Lv.agg rfl ?_ | refine Lv.fn rfl ?_ rfl ?_ | refine Lv.tup rfl ?_ | refine Lv.ifc ?_ | exact lv_nil | refine lv_cons ?_ ?_)), (lvI (by first | rfl | omega | (simp; done) | (simp; omega) | assumption)), trivial⟩
        · exact ⟨(obB rfl rfl rfl rfl (by repeat' (first | exact Lv.v | exact Lv.sl | exact Lv.fp | exact lvRr (id := (2, 0)) rfl rfl | exact lvPr (id := (2, 0)) rfl | exact lvRr (id := (6, 0)) rfl rfl | exact lvPr (id := (6, 0)) rfl | exact lvRr (id := (31, 0)) rfl rfl | exact lvPr (id := (31, 0)) rfl | exact lvRr (id := (29, 0)) rfl rfl | exact lvPr (id := (29, 0)) rfl | exact lvRr rfl rfl | exact lvPr rfl | exact Lv.mp | exact Lv.nil | exact Lv.z | exact Lv.dead | refine Lv.agg rfl ?_ | refine Lv.fn rfl ?_ rfl ?_ | refine Lv.tup rfl ?_ | refine Lv.ifc ?_ | exact lv_nil | refine lv_cons ?_ ?_))), (obB rfl rfl rfl rfl (by repeat' (first | exact Lv.v | exact Lv.sl | exact Lv.fp | exact lvRr (id := (2, 0)) rfl rfl | exact lvPr (id := (2, 0)) rfl | exact lvRr (id := (6, 0)) rfl rfl | exact lvPr (id := (6, 0)) rfl | exact lvRr (id := (31, 0)) rfl rfl | exact lvPr (id := (31, 0)) rfl | exact lvRr (id := (29, 0)) rfl rfl | exact lvPr (id := (29, 0)) rfl | exact lvRr rfl rfl | exact lvPr rfl | exact Lv.mp | exact Lv.nil | exact Lv.z | exact Lv.dead | refine Lv.agg rfl ?_ | refine Lv.fn rfl ?_ rfl ?_ | refine Lv.tup rfl ?_ | refine Lv.ifc ?_ | exact lv_nil | refine lv_cons ?_ ?_))), (obR rfl rfl rfl rfl), trivial⟩) ?_
      · exact ⟨by omega, fun j hj => by omega⟩
      intro i hi
      obtain ⟨hi, hok⟩ := hi
      refine D_seq fun K9 hK9 => ?_
      refine D_region ?_
      first
        | refine DL_c (op_lss _ _ rfl rfl (by assumption)) ?_
        | refine DL_c (op_lss _ _ rfl rfl rfl) ?_
      refine DL_nil (hK9 _ ?_)
      clear hK9; try clear K9
      refine D_seq fun K10 hK10 => ?_
      refine D_splitC rfl (fun hc35 => ?_) (fun hc35 => ?_)
      · skip
        refine D_skip (hK10 _ ?_)
        clear hK10; try clear K10
        refine D_seq fun K11 hK11 => ?_
        refine D_block ?_
        refine D_seq fun K12 hK12 => ?_
        refine D_region ?_
        first
          | refine DL_c (op_ixS _ _ inferInstance rfl rfl _ rfl (by omega) (by first | assumption | decide | (simp only [isl_len, bsl_len, psl_len, mrows_len, nsl_len, ws_len, List.length_map, mzero_len, nxL_len, wts_len]; omega) | (simp; done) | (simp; omega) | (simp [isl, bsl]; omega)) (by first | exact Nat.mul_one _ | rfl | omega)) ?_
          | refine DL_c (op_ixS _ _ inferInstance rfl rfl (Int.toNat _) (Int.toNat_of_nonneg (by omega)).symm (by omega) (by first | assumption | decide | (simp only [isl_len, bsl_len, psl_len, mrows_len, nsl_len, ws_len, List.length_map, mzero_len, nxL_len, wts_len]; omega) | (simp; done) | (simp; omega) | (simp [isl, bsl]; omega)) (by first | exact Nat.mul_one _ | rfl | omega)) ?_
        refine DL_c (op_ldFA _ inferInstance rfl (by exact psl_geta _ _ (by omega)) rfl) ?_
        refine DL_c (op_alloc (9, 0) inferInstance rfl rfl) ?_
        refine DL_c (op_stB _ _ inferInstance rfl rfl rfl rfl (Nat.le_of_ble_eq_true rfl) rfl) ?_
        refine DL_nil (hK12 _ ?_)
        clear hK12; try clear K12
        refine D_seq fun K13 hK13 => ?_
        refine D_region ?_
        refine DL_c (op_ixA _ _ inferInstance rfl rfl rfl 0 rfl (by omega) (by first | exact (Nat.zero_add _).trans (Nat.mul_one _) | exact Nat.zero_add _ | rfl | omega)) ?_
        first
          | refine DL_c (op_ldB _ inferInstance rfl rfl (rfl : _ = some (AV.v (.int _ _)))) ?_
          | refine DL_c (op_ldR _ inferInstance rfl rfl (by first | rfl | exact isl_get _ _ (by omega) | exact bsl_get _ _ (by omega) | assumption | exact mrows_get _ _ (by omega) | exact nsl_get _ _ (by omega) | exact psl_get0 _ _ (by omega) | exact psl_get1 _ _ (by omega) | exact nrows_get _ _ (by omega)) rfl) ?_
        refine DL_c (op_ixA _ _ inferInstance rfl rfl rfl 1 rfl (by omega) (by first | exact (Nat.zero_add _).trans (Nat.mul_one _) | exact Nat.zero_add _ | rfl | omega)) ?_
        first
          | refine DL_c (op_ldB _ inferInstance rfl rfl (rfl : _ = some (AV.v (.int _ _)))) ?_
          | refine DL_c (op_ldR _ inferInstance rfl rfl (by first | rfl | exact isl_get _ _ (by omega) | exact bsl_get _ _ (by omega) | assumption | exact mrows_get _ _ (by omega) | exact nsl_get _ _ (by omega) | exact psl_get0 _ _ (by omega) | exact psl_get1 _ _ (by omega) | exact nrows_get _ _ (by omega)) rfl) ?_
        refine DL_c (op_min _ _ rfl rfl rfl) ?_
        first
          | refine DL_c (op_lss _ _ rfl rfl (by assumption)) ?_
          | refine DL_c (op_lss _ _ rfl rfl rfl) ?_
        refine DL_c (op_mv _ (rfl : _ = AV.v (.bool _))) ?_
        refine DL_caseC (fun hg44 => ?_) (fun hg44 => ?_)
        · skip
          refine DL_cn rfl rfl (by decide) ?_
          refine DL_cn rfl rfl (by decide) ?_
          refine DL_cn rfl rfl (by decide) ?_
          refine DL_cn rfl rfl (by decide) ?_
          refine DL_cn rfl rfl (by decide) ?_
          refine DL_cn rfl rfl (by decide) ?_
          refine DL_cn rfl rfl (by decide) ?_
          refine DL_c (op_pick _ _ _ rfl (rfl : _ = AV.v (.bool _))) ?_
          refine DL_nil (hK13 _ ?_)
          clear hK13; try clear K13
          refine D_cT rfl rfl ?_
          refine D_seq fun K14 hK14 => ?_
          refine D_le (σ' := mkStB 187 [] [] ⟨(29, 0), false, 29, 3, 1000, _⟩ [] []) (by
            refine Le.keepB [] [] rfl ?_ ?_ trivial trivial (by kernel_rfl) rfl rfl rfl (fun _ => rfl) (by kernel_rfl) (fun _ => rfl)
            · exact trivial
            · exact trivial) ?_
          refine D_region ?_
          refine DL_c (op_as _ (rfl : _ = AV.v _)) ?_
          refine DL_c (op_as _ (rfl : _ = AV.v (.int _ _))) ?_
          refine DL_nil (hK14 _ ?_)
          clear hK14; try clear K14
          refine D_ret ?_
          rw [show newR n E = .tup [.v (.pointer none), .v (.int .i64 6)] from if_pos (inE_no (i := i) (by omega) (by omega))]
          exact ret2 (.inr rfl) rfl (.tmp (rfl : _ = AV.v _)) (.tmp (rfl : _ = AV.v _)) (Le.out [] [] (.tup rfl (lv_cons .v (lv_cons .v lv_nil))) rfl rfl rfl trivial trivial)
        · skip
          refine DL_cy rfl rfl (op_ixA _ _ inferInstance rfl rfl rfl 0 rfl (by omega) (by first | exact (Nat.zero_add _).trans (Nat.mul_one _) | exact Nat.zero_add _ | rfl | omega)) ?_
          first
            | refine DL_cy rfl rfl (op_ldB _ inferInstance rfl rfl (rfl : _ = some (AV.v (.int _ _)))) ?_
            | refine DL_cy rfl rfl (op_ldR _ inferInstance rfl rfl (by first | rfl | exact isl_get _ _ (by omega) | exact bsl_get _ _ (by omega) | assumption | exact mrows_get _ _ (by omega) | exact nsl_get _ _ (by omega) | exact psl_get0 _ _ (by omega) | exact psl_get1 _ _ (by omega) | exact nrows_get _ _ (by omega)) rfl) ?_
          refine DL_cy rfl rfl (op_ixA _ _ inferInstance rfl rfl rfl 1 rfl (by omega) (by first | exact (Nat.zero_add _).trans (Nat.mul_one _) | exact Nat.zero_add _ | rfl | omega)) ?_
          first
            | refine DL_cy rfl rfl (op_ldB _ inferInstance rfl rfl (rfl : _ = some (AV.v (.int _ _)))) ?_
            | refine DL_cy rfl rfl (op_ldR _ inferInstance rfl rfl (by first | rfl | exact isl_get _ _ (by omega) | exact bsl_get _ _ (by omega) | assumption | exact mrows_get _ _ (by omega) | exact nsl_get _ _ (by omega) | exact psl_get0 _ _ (by omega) | exact psl_get1 _ _ (by omega) | exact nrows_get _ _ (by omega)) rfl) ?_
          refine DL_cy rfl rfl (op_max _ _ rfl rfl rfl) ?_
          first
            | refine DL_cy rfl rfl (op_ldB _ inferInstance rfl rfl (rfl : _ = some (AV.v (.int _ _)))) ?_
            | refine DL_cy rfl rfl (op_ldR _ inferInstance rfl rfl (by first | rfl | exact isl_get _ _ (by omega) | exact bsl_get _ _ (by omega) | assumption | exact mrows_get _ _ (by omega) | exact nsl_get _ _ (by omega) | exact psl_get0 _ _ (by omega) | exact psl_get1 _ _ (by omega) | exact nrows_get _ _ (by omega)) rfl) ?_
          first
            | refine DL_cy rfl rfl (op_geq _ _ rfl rfl (by assumption)) ?_
            | refine DL_cy rfl rfl (op_geq _ _ rfl rfl rfl) ?_
          refine DL_c (op_pick _ _ _ rfl (rfl : _ = AV.v (.bool _))) ?_
          refine DL_nil (hK13 _ ?_)
          clear hK13; try clear K13
          refine D_splitC rfl (fun hc52 => ?_) (fun hc52 => ?_)
          · skip
            refine D_seq fun K15 hK15 => ?_
            refine D_le (σ' := mkStB 187 [] [] ⟨(29, 0), false, 29, 3, 1000, _⟩ [] []) (by
              refine Le.keepB [] [] rfl ?_ ?_ trivial trivial (by kernel_rfl) rfl rfl rfl (fun _ => rfl) (by kernel_rfl) (fun _ => rfl)
              · exact trivial
              · exact trivial) ?_
            refine D_region ?_
            refine DL_c (op_as _ (rfl : _ = AV.v _)) ?_
            refine DL_c (op_as _ (rfl : _ = AV.v (.int _ _))) ?_
            refine DL_nil (hK15 _ ?_)
            clear hK15; try clear K15
            refine D_ret ?_
            rw [show newR n E = .tup [.v (.pointer none), .v (.int .i64 6)] from if_pos (inE_no (i := i) (by omega) (by omega))]
            exact ret2 (.inr rfl) rfl (.tmp (rfl : _ = AV.v _)) (.tmp (rfl : _ = AV.v _)) (Le.out [] [] (.tup rfl (lv_cons .v (lv_cons .v lv_nil))) rfl rfl rfl trivial trivial)
          · skip
            refine D_skip (hK11 _ ?_)
            clear hK11; try clear K11
            refine D_le (σ' := mkStB 187 [(1, _), (2, _), (6, _), (7, _), (32, _), (33, _), (34, _)] [((2, 0), _), ((6, 0), _), ((31, 0), _)] ⟨(29, 0), false, 29, 3, 1000, _⟩ [] []) (by
              refine Le.keepB [] [] rfl ?_ ?_ trivial trivial (by kernel_rfl) rfl rfl rfl (fun _ => rfl) (by kernel_rfl) (fun _ => rfl)
              · exact ⟨(by repeat' (first | exact Lv.v | exact Lv.sl | exact Lv.fp | exact lvRr (id := (2, 0)) rfl rfl | exact lvPr (id := (2, 0)) rfl | exact lvRr (id := (6, 0)) rfl rfl | exact lvPr (id := (6, 0)) rfl | exact lvRr (id := (31, 0)) rfl rfl | exact lvPr (id := (31, 0)) rfl | exact lvRr (id := (9, 0)) rfl rfl | exact lvPr (id := (9, 0)) rfl | exact lvRr (id := (29, 0)) rfl rfl | exact lvPr (id := (29, 0)) rfl | exact lvRr rfl rfl | exact lvPr rfl | exact Lv.mp | exact Lv.nil | exact Lv.z | exact Lv.dead | refine Lv.agg rfl ?_ | refine Lv.fn rfl ?_ rfl ?_ | refine Lv.tup rfl ?_ | refine Lv.ifc ?_ | exact lv_nil | refine lv_cons ?_ ?_)), (lvPr (id := (2, 0)) rfl), (lvPr (id := (6, 0)) rfl), (lvRr (id := (31, 0)) rfl rfl), (by repeat' (first | exact Lv.v | exact Lv.sl | exact Lv.fp | exact lvRr (id := (2, 0)) rfl rfl | exact lvPr (id := (2, 0)) rfl | exact lvRr (id := (6, 0)) rfl rfl | exact lvPr (id := (6, 0)) rfl | exact lvRr (id := (31, 0)) rfl rfl | exact lvPr (id := (31, 0)) rfl | exact lvRr (id := (9, 0)) rfl rfl | exact lvPr (id := (9, 0)) rfl | exact lvRr (id := (29, 0)) rfl rfl | exact lvPr (id := (29, 0)) rfl | exact lvRr rfl rfl | exact lvPr rfl | exact Lv.mp | exact Lv.nil | exact Lv.z | exact Lv.dead | refine Lv.agg rfl ?_ | refine Lv.fn rfl ?_ rfl ?_ | refine Lv.tup rfl ?_ | refine Lv.ifc ?_ | exact lv_nil | refine lv_cons ?_ ?_)), (by repeat' (first | exact Lv.v | exact Lv.sl | exact Lv.fp | exact lvRr (id := (2, 0)) rfl rfl | exact lvPr (id := (2, 0)) rfl | exact lvRr (id := (6, 0)) rfl rfl | exact lvPr (id := (6, 0)) rfl | exact lvRr (id := (31, 0)) rfl rfl | exact lvPr (id := (31, 0)) rfl | exact lvRr (id := (9, 0)) rfl rfl | exact lvPr (id := (9, 0)) rfl | exact lvRr (id := (29, 0)) rfl rfl | exact lvPr (id := (29, 0)) rfl | exact lvRr rfl rfl | exact lvPr rfl | exact Lv.mp | exact Lv.nil | exact Lv.z | exact Lv.dead | refine Lv.agg rfl ?_ | refine Lv.fn rfl ?_ rfl ?_ | refine Lv.tup rfl ?_ | refine Lv.ifc ?_ | exact lv_nil | refine lv_cons ?_ ?_)), (by repeat' (first | exact Lv.v | exact Lv.sl | exact Lv.fp | exact lvRr (id := (2, 0)) rfl rfl | exact lvPr (id := (2, 0)) rfl | exact lvRr (id := (6, 0)) rfl rfl | exact lvPr (id := (6, 0)) rfl | exact lvRr (id := (31, 0)) rfl rfl | exact lvPr (id := (31, 0)) rfl | exact lvRr (id := (9, 0)) rfl rfl | exact lvPr (id := (9, 0)) rfl | exact lvRr (id := (29, 0)) rfl rfl | exact lvPr (id := (29, 0)) rfl | exact lvRr rfl rfl | exact lvPr rfl | exact Lv.mp | exact Lv.nil | exact Lv.z | exact Lv.dead | refine Lv.agg rfl ?_ | refine Lv.fn rfl ?_ rfl ?_ | refine Lv.tup rfl ?_ | refine Lv.ifc ?_ | exact lv_nil | refine lv_cons ?_ ?_)), trivial⟩
              · exact ⟨(obB rfl rfl rfl rfl (by repeat' (first | exact Lv.v | exact Lv.sl | exact Lv.fp | exact lvRr (id := (2, 0)) rfl rfl | exact lvPr (id := (2, 0)) rfl | exact lvRr (id := (6, 0)) rfl rfl | exact lvPr (id := (6, 0)) rfl | exact lvRr (id := (31, 0)) rfl rfl | exact lvPr (id := (31, 0)) rfl | exact lvRr (id := (9, 0)) rfl rfl | exact lvPr (id := (9, 0)) rfl | exact lvRr (id := (29, 0)) rfl rfl | exact lvPr (id := (29, 0)) rfl | exact lvRr rfl rfl | exact lvPr rfl | exact Lv.mp | exact Lv.nil | exact Lv.z | exact Lv.dead | refine Lv.agg rfl ?_ | refine Lv.fn rfl ?_ rfl ?_ | refine Lv.tup rfl ?_ | refine Lv.ifc ?_ | exact lv_nil | refine lv_cons ?_ ?_))), (obB rfl rfl rfl rfl (by repeat' (first | exact Lv.v | exact Lv.sl | exact Lv.fp | exact lvRr (id := (2, 0)) rfl rfl | exact lvPr (id := (2, 0)) rfl | exact lvRr (id := (6, 0)) rfl rfl | exact lvPr (id := (6, 0)) rfl | exact lvRr (id := (31, 0)) rfl rfl | exact lvPr (id := (31, 0)) rfl | exact lvRr (id := (9, 0)) rfl rfl | exact lvPr (id := (9, 0)) rfl | exact lvRr (id := (29, 0)) rfl rfl | exact lvPr (id := (29, 0)) rfl | exact lvRr rfl rfl | exact lvPr rfl | exact Lv.mp | exact Lv.nil | exact Lv.z | exact Lv.dead | refine Lv.agg rfl ?_ | refine Lv.fn rfl ?_ rfl ?_ | refine Lv.tup rfl ?_ | refine Lv.ifc ?_ | exact lv_nil | refine lv_cons ?_ ?_))), (obR rfl rfl rfl rfl), trivial⟩) ?_
            refine D_region ?_
            first
              | refine DL_c (op_add _ _ rfl rfl (i64w (by omega))) ?_
              | refine DL_c (op_add _ _ rfl rfl rfl) ?_
            refine DL_c (op_mv _ (rfl : _ = AV.v (.int _ _))) ?_
            refine DL_nil ?_
            refine ⟨i + 1, ?_, ?_, ?_⟩
            · exact ⟨by omega, all_succ hok (by omega)⟩
            · skip
              refine Le.keepB [] [] rfl ?_ ?_ trivial trivial (by kernel_rfl) rfl rfl rfl (fun _ => rfl) (by kernel_rfl) (fun _ => rfl)
              · exact ⟨(by repeat' (first | exact Lv.v | exact Lv.sl | exact Lv.fp | exact lvRr (id := (2, 0)) rfl rfl | exact lvPr (id := (2, 0)) rfl | exact lvRr (id := (6, 0)) rfl rfl | exact lvPr (id := (6, 0)) rfl | exact lvRr (id := (31, 0)) rfl rfl | exact lvPr (id := (31, 0)) rfl | exact lvRr (id := (29, 0)) rfl rfl | exact lvPr (id := (29, 0)) rfl | exact lvRr rfl rfl | exact lvPr rfl | exact Lv.mp | exact Lv.nil | exact Lv.z | exact Lv.dead | refine Lv.agg rfl ?_ | refine Lv.fn rfl ?_ rfl ?_ | refine Lv.tup rfl ?_ | refine Lv.ifc ?_ | exact lv_nil | refine lv_cons ?_ ?_)), (lvPr (id := (2, 0)) rfl), (lvPr (id := (6, 0)) rfl), (lvRr (id := (31, 0)) rfl rfl), (by repeat' (first | exact Lv.v | exact Lv.sl | exact Lv.fp | exact lvRr (id := (2, 0)) rfl rfl | exact lvPr (id := (2, 0)) rfl | exact lvRr (id := (6, 0)) rfl rfl | exact lvPr (id := (6, 0)) rfl | exact lvRr (id := (31, 0)) rfl rfl | exact lvPr (id := (31, 0)) rfl | exact lvRr (id := (29, 0)) rfl rfl | exact lvPr (id := (29, 0)) rfl | exact lvRr rfl rfl | exact lvPr rfl | exact Lv.mp | exact Lv.nil | exact Lv.z | exact Lv.dead | refine Lv.agg rfl ?_ | refine Lv.fn rfl ?_ rfl ?_ | refine Lv.tup rfl ?_ | refine Lv.ifc ?_ | exact lv_nil | refine lv_cons ?_ ?_)), (by repeat' (first | exact Lv.v | exact Lv.sl | exact Lv.fp | exact lvRr (id := (2, 0)) rfl rfl | exact lvPr (id := (2, 0)) rfl | exact lvRr (id := (6, 0)) rfl rfl | exact lvPr (id := (6, 0)) rfl | exact lvRr (id := (31, 0)) rfl rfl | exact lvPr (id := (31, 0)) rfl | exact lvRr (id := (29, 0)) rfl rfl | exact lvPr (id := (29, 0)) rfl | exact lvRr rfl rfl | exact lvPr rfl | exact Lv.mp | exact Lv.nil | exact Lv.z | exact Lv.dead | refine Lv.agg rfl ?_ | refine Lv.fn rfl ?_ rfl ?_ | refine Lv.tup rfl ?_ | refine Lv.ifc ?_ | exact lv_nil | refine lv_cons ?_ ?_)), (lvI (by first | rfl | omega | (simp; done) | (simp; omega) | assumption)), trivial⟩
              · exact ⟨(obB rfl rfl rfl rfl (by repeat' (first | exact Lv.v | exact Lv.sl | exact Lv.fp | exact lvRr (id := (2, 0)) rfl rfl | exact lvPr (id := (2, 0)) rfl | exact lvRr (id := (6, 0)) rfl rfl | exact lvPr (id := (6, 0)) rfl | exact lvRr (id := (31, 0)) rfl rfl | exact lvPr (id := (31, 0)) rfl | exact lvRr (id := (29, 0)) rfl rfl | exact lvPr (id := (29, 0)) rfl | exact lvRr rfl rfl | exact lvPr rfl | exact Lv.mp | exact Lv.nil | exact Lv.z | exact Lv.dead | refine Lv.agg rfl ?_ | refine Lv.fn rfl ?_ rfl ?_ | refine Lv.tup rfl ?_ | refine Lv.ifc ?_ | exact lv_nil | refine lv_cons ?_ ?_))), (obB rfl rfl rfl rfl (by repeat' (first | exact Lv.v | exact Lv.sl | exact Lv.fp | exact lvRr (id := (2, 0)) rfl rfl | exact lvPr (id := (2, 0)) rfl | exact lvRr (id := (6, 0)) rfl rfl | exact lvPr (id := (6, 0)) rfl | exact lvRr (id := (31, 0)) rfl rfl | exact lvPr (id := (31, 0)) rfl | exact lvRr (id := (29, 0)) rfl rfl | exact lvPr (id := (29, 0)) rfl | exact lvRr rfl rfl | exact lvPr rfl | exact Lv.mp | exact Lv.nil | exact Lv.z | exact Lv.dead | refine Lv.agg rfl ?_ | refine Lv.fn rfl ?_ rfl ?_ | refine Lv.tup rfl ?_ | refine Lv.ifc ?_ | exact lv_nil | refine lv_cons ?_ ?_))), (obR rfl rfl rfl rfl), trivial⟩
            · omega
      · skip
        have hE : inE n E = true := inE_of fun j hj => hok j (by omega)
        refine D_exit ?_
        refine id (hK7 _ ?_)
        clear hK7; try clear K7
        refine D_seq fun K16 hK16 => ?_
        refine D_seq fun K17 hK17 => ?_
        refine D_region ?_
        refine DL_c (op_mv _ (rfl : _ = AV.sl _ _)) ?_
        refine DL_c (op_lenS _ inferInstance rfl) ?_
        refine DL_c (op_mv _ (rfl : _ = AV.v (.int _ _))) ?_
        refine DL_nil (hK17 _ ?_)
        clear hK17; try clear K17
        refine D_block ?_
        refine D_loopLB (α := Nat) (fun k => k ≤ m) 187 [(2, _), (6, _), (7, _), (54, _), (55, _)] [((2, 0), _), ((6, 0), _)] (fun k => [(56, .v (.int .i64 (k : Int)))]) (fun k => [((31, 0), .row 3 1 (isl (wts n E k)))]) (fun k => ⟨(29, 0), false, 29, 3, 1000, ((nxL n E k).map isl)⟩) [] [] (fun k => m - k) 0 ?_ (by
          refine Le.keepB [] [] rfl ?_ ?_ trivial trivial (by kernel_rfl) rfl rfl rfl (fun _ => rfl) (by kernel_rfl) (fun _ => rfl)
          · exact ⟨(lvPr (id := (2, 0)) rfl), (lvPr (id := (6, 0)) rfl), (lvRr (id := (31, 0)) rfl rfl), (by repeat' (first | exact Lv.v | exact Lv.sl | exact Lv.fp | exact lvRr (id := (2, 0)) rfl rfl | exact lvPr (id := (2, 0)) rfl | exact lvRr (id := (6, 0)) rfl rfl | exact lvPr (id := (6, 0)) rfl | exact lvRr (id := (31, 0)) rfl rfl | exact lvPr (id := (31, 0)) rfl | exact lvRr (id := (29, 0)) rfl rfl | exact lvPr (id := (29, 0)) rfl | exact lvRr rfl rfl | exact lvPr rfl | exact Lv.mp | exact Lv.nil | exact Lv.z | exact Lv.dead | refine Lv.agg rfl ?_ | refine Lv.fn rfl ?_ rfl ?_ | refine Lv.tup rfl ?_ | refine Lv.ifc ?_ | exact lv_nil | refine lv_cons ?_ ?_)), (by repeat' (first | exact Lv.v | exact Lv.sl | exact Lv.fp | exact lvRr (id := (2, 0)) rfl rfl | exact lvPr (id := (2, 0)) rfl | exact lvRr (id := (6, 0)) rfl rfl | exact lvPr (id := (6, 0)) rfl | exact lvRr (id := (31, 0)) rfl rfl | exact lvPr (id := (31, 0)) rfl | exact lvRr (id := (29, 0)) rfl rfl | exact lvPr (id := (29, 0)) rfl | exact lvRr rfl rfl | exact lvPr rfl | exact Lv.mp | exact Lv.nil | exact Lv.z | exact Lv.dead | refine Lv.agg rfl ?_ | refine Lv.fn rfl ?_ rfl ?_ | refine Lv.tup rfl ?_ | refine Lv.ifc ?_ | exact lv_nil | refine lv_cons ?_ ?_)), (lvI (by first | rfl | omega | (simp; done) | (simp; omega) | assumption)), trivial⟩
          · exact ⟨(obB rfl rfl rfl rfl (by repeat' (first | exact Lv.v | exact Lv.sl | exact Lv.fp | exact lvRr (id := (2, 0)) rfl rfl | exact lvPr (id := (2, 0)) rfl | exact lvRr (id := (6, 0)) rfl rfl | exact lvPr (id := (6, 0)) rfl | exact lvRr (id := (31, 0)) rfl rfl | exact lvPr (id := (31, 0)) rfl | exact lvRr (id := (29, 0)) rfl rfl | exact lvPr (id := (29, 0)) rfl | exact lvRr rfl rfl | exact lvPr rfl | exact Lv.mp | exact Lv.nil | exact Lv.z | exact Lv.dead | refine Lv.agg rfl ?_ | refine Lv.fn rfl ?_ rfl ?_ | refine Lv.tup rfl ?_ | refine Lv.ifc ?_ | exact lv_nil | refine lv_cons ?_ ?_))), (obB rfl rfl rfl rfl (by repeat' (first | exact Lv.v | exact Lv.sl | exact Lv.fp | exact lvRr (id := (2, 0)) rfl rfl | exact lvPr (id := (2, 0)) rfl | exact lvRr (id := (6, 0)) rfl rfl | exact lvPr (id := (6, 0)) rfl | exact lvRr (id := (31, 0)) rfl rfl | exact lvPr (id := (31, 0)) rfl | exact lvRr (id := (29, 0)) rfl rfl | exact lvPr (id := (29, 0)) rfl | exact lvRr rfl rfl | exact lvPr rfl | exact Lv.mp | exact Lv.nil | exact Lv.z | exact Lv.dead | refine Lv.agg rfl ?_ | refine Lv.fn rfl ?_ rfl ?_ | refine Lv.tup rfl ?_ | refine Lv.ifc ?_ | exact lv_nil | refine lv_cons ?_ ?_))), (obR rfl rfl rfl (by rw [wts_zero])), trivial⟩) ?_
        · first | omega | trivial | exact ⟨by omega, by omega⟩
        intro k hk
        refine D_seq fun K18 hK18 => ?_
        refine D_region ?_
        first
          | refine DL_c (op_lss _ _ rfl rfl (by assumption)) ?_
          | refine DL_c (op_lss _ _ rfl rfl rfl) ?_
        refine DL_nil (hK18 _ ?_)
        clear hK18; try clear K18
        refine D_seq fun K19 hK19 => ?_
        refine D_splitC rfl (fun hc57 => ?_) (fun hc57 => ?_)
        · skip
          have hb := inE_at hE (i := k) (by omega)
          have hwl := wts_len n E k
          have hnl := nxL_len n E k
          have hxl := nxt_len (E.take k) (E.getD k (0, 0)).1.toNat
          rw [← nxL_get (n := n) (by omega), List.length_take] at hxl
          have hwb := wts_bd (n := n) (E := E) (k := k) (b := (E.getD k (0, 0)).2.toNat) (by omega)
          refine D_skip (hK19 _ ?_)
          clear hK19; try clear K19
          refine D_seq fun K20 hK20 => ?_
          refine D_block ?_
          refine D_seq fun K21 hK21 => ?_
          refine D_region ?_
          first
            | refine DL_c (op_ixS _ _ inferInstance rfl rfl _ rfl (by omega) (by first | assumption | decide | (simp only [isl_len, bsl_len, psl_len, mrows_len, nsl_len, ws_len, List.length_map, mzero_len, nxL_len, wts_len]; omega) | (simp; done) | (simp; omega) | (simp [isl, bsl]; omega)) (by first | exact Nat.mul_one _ | rfl | omega)) ?_
            | refine DL_c (op_ixS _ _ inferInstance rfl rfl (Int.toNat _) (Int.toNat_of_nonneg (by omega)).symm (by omega) (by first | assumption | decide | (simp only [isl_len, bsl_len, psl_len, mrows_len, nsl_len, ws_len, List.length_map, mzero_len, nxL_len, wts_len]; omega) | (simp; done) | (simp; omega) | (simp [isl, bsl]; omega)) (by first | exact Nat.mul_one _ | rfl | omega)) ?_
          refine DL_c (op_ldFA _ inferInstance rfl (by exact psl_geta _ _ (by omega)) rfl) ?_
          refine DL_c (op_alloc (11, 0) inferInstance rfl rfl) ?_
          refine DL_c (op_stB _ _ inferInstance rfl rfl rfl rfl (Nat.le_of_ble_eq_true rfl) rfl) ?_
          refine DL_nil (hK21 _ ?_)
          clear hK21; try clear K21
          refine D_seq fun K22 hK22 => ?_
          refine D_le (σ' := mkStB 187 [(2, _), (6, _), (7, _), (11, _), (54, _), (55, _), (56, _)] [((2, 0), _), ((6, 0), _), ((31, 0), _), ((11, 0), _)] ⟨(29, 0), false, 29, 3, 1000, _⟩ [] []) (by
            refine Le.keepB [] [] rfl ?_ ?_ trivial trivial (by kernel_rfl) rfl rfl rfl (fun _ => rfl) (by kernel_rfl) (fun _ => rfl)
            · exact ⟨(lvPr (id := (2, 0)) rfl), (lvPr (id := (6, 0)) rfl), (lvRr (id := (31, 0)) rfl rfl), (lvPr (id := (11, 0)) rfl), (by repeat' (first | exact Lv.v | exact Lv.sl | exact Lv.fp | exact lvRr (id := (2, 0)) rfl rfl | exact lvPr (id := (2, 0)) rfl | exact lvRr (id := (6, 0)) rfl rfl | exact lvPr (id := (6, 0)) rfl | exact lvRr (id := (31, 0)) rfl rfl | exact lvPr (id := (31, 0)) rfl | exact lvRr (id := (11, 0)) rfl rfl | exact lvPr (id := (11, 0)) rfl | exact lvRr (id := (29, 0)) rfl rfl | exact lvPr (id := (29, 0)) rfl | exact lvRr rfl rfl | exact lvPr rfl | exact Lv.mp | exact Lv.nil | exact Lv.z | exact Lv.dead | refine Lv.agg rfl ?_ | refine Lv.fn rfl ?_ rfl ?_ | refine Lv.tup rfl ?_ | refine Lv.ifc ?_ | exact lv_nil | refine lv_cons ?_ ?_)), (by repeat' (first | exact Lv.v | exact Lv.sl | exact Lv.fp | exact lvRr (id := (2, 0)) rfl rfl | exact lvPr (id := (2, 0)) rfl | exact lvRr (id := (6, 0)) rfl rfl | exact lvPr (id := (6, 0)) rfl | exact lvRr (id := (31, 0)) rfl rfl | exact lvPr (id := (31, 0)) rfl | exact lvRr (id := (11, 0)) rfl rfl | exact lvPr (id := (11, 0)) rfl | exact lvRr (id := (29, 0)) rfl rfl | exact lvPr (id := (29, 0)) rfl | exact lvRr rfl rfl | exact lvPr rfl | exact Lv.mp | exact Lv.nil | exact Lv.z | exact Lv.dead | refine Lv.agg rfl ?_ | refine Lv.fn rfl ?_ rfl ?_ | refine Lv.tup rfl ?_ | refine Lv.ifc ?_ | exact lv_nil | refine lv_cons ?_ ?_)), (by repeat' (first | exact Lv.v | exact Lv.sl | exact Lv.fp | exact lvRr (id := (2, 0)) rfl rfl | exact lvPr (id := (2, 0)) rfl | exact lvRr (id := (6, 0)) rfl rfl | exact lvPr (id := (6, 0)) rfl | exact lvRr (id := (31, 0)) rfl rfl | exact lvPr (id := (31, 0)) rfl | exact lvRr (id := (11, 0)) rfl rfl | exact lvPr (id := (11, 0)) rfl | exact lvRr (id := (29, 0)) rfl rfl | exact lvPr (id := (29, 0)) rfl | exact lvRr rfl rfl | exact lvPr rfl | exact Lv.mp | exact Lv.nil | exact Lv.z | exact Lv.dead | refine Lv.agg rfl ?_ | refine Lv.fn rfl ?_ rfl ?_ | refine Lv.tup rfl ?_ | refine Lv.ifc ?_ | exact lv_nil | refine lv_cons ?_ ?_)), trivial⟩
            · exact ⟨(obB rfl rfl rfl rfl (by repeat' (first | exact Lv.v | exact Lv.sl | exact Lv.fp | exact lvRr (id := (2, 0)) rfl rfl | exact lvPr (id := (2, 0)) rfl | exact lvRr (id := (6, 0)) rfl rfl | exact lvPr (id := (6, 0)) rfl | exact lvRr (id := (31, 0)) rfl rfl | exact lvPr (id := (31, 0)) rfl | exact lvRr (id := (11, 0)) rfl rfl | exact lvPr (id := (11, 0)) rfl | exact lvRr (id := (29, 0)) rfl rfl | exact lvPr (id := (29, 0)) rfl | exact lvRr rfl rfl | exact lvPr rfl | exact Lv.mp | exact Lv.nil | exact Lv.z | exact Lv.dead | refine Lv.agg rfl ?_ | refine Lv.fn rfl ?_ rfl ?_ | refine Lv.tup rfl ?_ | refine Lv.ifc ?_ | exact lv_nil | refine lv_cons ?_ ?_))), (obB rfl rfl rfl rfl (by repeat' (first | exact Lv.v | exact Lv.sl | exact Lv.fp | exact lvRr (id := (2, 0)) rfl rfl | exact lvPr (id := (2, 0)) rfl | exact lvRr (id := (6, 0)) rfl rfl | exact lvPr (id := (6, 0)) rfl | exact lvRr (id := (31, 0)) rfl rfl | exact lvPr (id := (31, 0)) rfl | exact lvRr (id := (11, 0)) rfl rfl | exact lvPr (id := (11, 0)) rfl | exact lvRr (id := (29, 0)) rfl rfl | exact lvPr (id := (29, 0)) rfl | exact lvRr rfl rfl | exact lvPr rfl | exact Lv.mp | exact Lv.nil | exact Lv.z | exact Lv.dead | refine Lv.agg rfl ?_ | refine Lv.fn rfl ?_ rfl ?_ | refine Lv.tup rfl ?_ | refine Lv.ifc ?_ | exact lv_nil | refine lv_cons ?_ ?_))), (obR rfl rfl rfl rfl), (obB rfl rfl rfl rfl (by repeat' (first | exact Lv.v | exact Lv.sl | exact Lv.fp | exact lvRr (id := (2, 0)) rfl rfl | exact lvPr (id := (2, 0)) rfl | exact lvRr (id := (6, 0)) rfl rfl | exact lvPr (id := (6, 0)) rfl | exact lvRr (id := (31, 0)) rfl rfl | exact lvPr (id := (31, 0)) rfl | exact lvRr (id := (11, 0)) rfl rfl | exact lvPr (id := (11, 0)) rfl | exact lvRr (id := (29, 0)) rfl rfl | exact lvPr (id := (29, 0)) rfl | exact lvRr rfl rfl | exact lvPr rfl | exact Lv.mp | exact Lv.nil | exact Lv.z | exact Lv.dead | refine Lv.agg rfl ?_ | refine Lv.fn rfl ?_ rfl ?_ | refine Lv.tup rfl ?_ | refine Lv.ifc ?_ | exact lv_nil | refine lv_cons ?_ ?_))), trivial⟩) ?_
          refine D_anyL 13 [60, 61, 62, 63, 64, 65, 66, 67, 68, 69, 70, 71, 72] [(1000, (E.getD k (0, 0)).1.toNat), (71, 0)] (by kernel_rfl) (by kernel_rfl) rfl (nodupO_iff rfl) (rfl : _ = [_, _, _, _, _, _, _, _, _, _, _, _, _]) (rfl : _ = [_]) ?_
          first
            | refine any_c (_, []) (fun τ => op_ldB _ inferInstance rfl rfl (rfl : _ = some (AV.ref _ _ _))) ?_
            | refine any_c (_, []) (fun τ => op_ldR _ inferInstance rfl rfl (by first | rfl | exact isl_get _ _ (by omega) | exact bsl_get _ _ (by omega) | assumption | exact mrows_get _ _ (by omega) | exact nsl_get _ _ (by omega) | exact psl_get0 _ _ (by omega) | exact psl_get1 _ _ (by omega) | exact nrows_get _ _ (by omega)) rfl) ?_
          refine any_n (rfl : _ = [_]) ?_
          refine any_c (_, []) (fun τ => op_ixA _ _ inferInstance rfl rfl rfl 0 rfl (by omega) (by first | exact (Nat.zero_add _).trans (Nat.mul_one _) | exact Nat.zero_add _ | rfl | omega)) ?_
          refine any_n (rfl : _ = [_, _]) ?_
          first
            | refine any_c (_, []) (fun τ => op_ldB _ inferInstance rfl rfl (rfl : _ = some (AV.v (.int _ _)))) ?_
            | refine any_c (_, []) (fun τ => op_ldR _ inferInstance rfl rfl (by first | rfl | exact isl_get _ _ (by omega) | exact bsl_get _ _ (by omega) | assumption | exact mrows_get _ _ (by omega) | exact nsl_get _ _ (by omega) | exact psl_get0 _ _ (by omega) | exact psl_get1 _ _ (by omega) | exact nrows_get _ _ (by omega)) rfl) ?_
          refine any_n (rfl : _ = [_, _, _]) ?_
          first
            | refine any_c (_, []) (fun τ => op_ldB _ inferInstance rfl rfl (rfl : _ = some (AV.ref _ _ _))) ?_
            | refine any_c (_, []) (fun τ => op_ldR _ inferInstance rfl rfl (by first | rfl | exact isl_get _ _ (by omega) | exact bsl_get _ _ (by omega) | assumption | exact mrows_get _ _ (by omega) | exact nsl_get _ _ (by omega) | exact psl_get0 _ _ (by omega) | exact psl_get1 _ _ (by omega) | exact nrows_get _ _ (by omega)) rfl) ?_
          refine any_n (rfl : _ = [_, _, _, _]) ?_
          refine any_c (_, []) (fun τ => op_ixA _ _ inferInstance rfl rfl rfl 0 rfl (by omega) (by first | exact (Nat.zero_add _).trans (Nat.mul_one _) | exact Nat.zero_add _ | rfl | omega)) ?_
          refine any_n (rfl : _ = [_, _, _, _, _]) ?_
          first
            | refine any_c (_, []) (fun τ => op_ldB _ inferInstance rfl rfl (rfl : _ = some (AV.v (.int _ _)))) ?_
            | refine any_c (_, []) (fun τ => op_ldR _ inferInstance rfl rfl (by first | rfl | exact isl_get _ _ (by omega) | exact bsl_get _ _ (by omega) | assumption | exact mrows_get _ _ (by omega) | exact nsl_get _ _ (by omega) | exact psl_get0 _ _ (by omega) | exact psl_get1 _ _ (by omega) | exact nrows_get _ _ (by omega)) rfl) ?_
          refine any_n (rfl : _ = [_, _, _, _, _, _]) ?_
          first
            | refine any_c (_, []) (fun τ => op_ixB _ _ inferInstance rfl rfl rfl _ rfl (by omega) (by first | exact (Nat.zero_add _).trans (Nat.mul_one _) | exact Nat.zero_add _ | rfl | omega)) ?_
            | refine any_c (_, []) (fun τ => op_ixB _ _ inferInstance rfl rfl rfl (Int.toNat _) (Int.toNat_of_nonneg (by omega)).symm (by omega) (by first | exact (Nat.zero_add _).trans (Nat.mul_one _) | exact Nat.zero_add _ | rfl | omega)) ?_
          refine any_n (rfl : _ = [_, _, _, _, _, _, _]) ?_
          refine any_c (_, []) (fun τ => op_ldB _ inferInstance rfl rfl (bun_cell (f := 1000) (b := ⟨(29, 0), false, 29, 3, 1000, _⟩) (j := (E.getD k (0, 0)).1.toNat) (n := ((nxL n E k).getD (E.getD k (0, 0)).1.toNat []).length) rfl (by first | omega | assumption | (simp only [isl_len, bsl_len, psl_len, mrows_len, nsl_len, ws_len, List.length_map, mzero_len, nxL_len, wts_len]; omega) | (simp; done) | (simp; omega)) (by first | rfl | assumption | (simp only [isl_len, bsl_len, psl_len, mrows_len, nsl_len, ws_len, List.length_map, mzero_len, nxL_len, wts_len]; omega) | (simp; done) | (simp; omega) | (rw [irow_get, isl_len])) rfl)) ?_
          refine any_n (rfl : _ = [_, _, _, _, _, _, _, _]) ?_
          refine any_c (_, []) (fun τ => op_ixA _ _ inferInstance rfl rfl rfl 1 rfl (by omega) (by first | exact (Nat.zero_add _).trans (Nat.mul_one _) | exact Nat.zero_add _ | rfl | omega)) ?_
          refine any_n (rfl : _ = [_, _, _, _, _, _, _, _, _]) ?_
          first
            | refine any_c (_, []) (fun τ => op_ldB _ inferInstance rfl rfl (rfl : _ = some (AV.v (.int _ _)))) ?_
            | refine any_c (_, []) (fun τ => op_ldR _ inferInstance rfl rfl (by first | rfl | exact isl_get _ _ (by omega) | exact bsl_get _ _ (by omega) | assumption | exact mrows_get _ _ (by omega) | exact nsl_get _ _ (by omega) | exact psl_get0 _ _ (by omega) | exact psl_get1 _ _ (by omega) | exact nrows_get _ _ (by omega)) rfl) ?_
          refine any_n (rfl : _ = [_, _, _, _, _, _, _, _, _, _]) ?_
          refine any_c (_, []) (fun τ => op_bsF _ _ inferInstance rfl (by rfl) (by simp <;> rfl) (by decide) rfl) ?_
          refine any_n (rfl : _ = [_, _, _, _, _, _, _, _, _, _, _]) ?_
          refine any_c (_, [((1000, (E.getD k (0, 0)).1.toNat), .gone), ((71, 0), _)]) (fun τ => op_apN (71, 0) _ _ inferInstance rfl (mix_own rfl (by exact inO_head) (bun_row (b := ⟨(29, 0), false, 29, 3, 1000, _⟩) rfl (by rfl) rfl (by first | omega | assumption | (simp only [isl_len, bsl_len, psl_len, mrows_len, nsl_len, ws_len, List.length_map, mzero_len, nxL_len, wts_len]; omega) | (simp; done) | (simp; omega)) (by first | exact irow_get _ _ | rfl))) (by first | rfl | omega | (simp only [isl_len, bsl_len, psl_len, mrows_len, nsl_len, ws_len, List.length_map, mzero_len, nxL_len, wts_len]; omega) | (simp; done) | (simp; omega)) (by first | exact .nil | (refine .sl ?_; first | (simp [isl]; done) | (simp [isl]; omega)) | (refine .ref rfl rfl ?_; first | (simp; done) | (simp; omega))) (by omega) rfl rfl rfl (rfl) (rfl)) ?_
          refine any_n (rfl : _ = [_, _, _, _, _, _, _, _, _, _, _, _]) ?_
          first
            | refine any_c (_, []) (fun τ => op_ixB _ _ inferInstance rfl rfl rfl _ rfl (by omega) (by first | exact (Nat.zero_add _).trans (Nat.mul_one _) | exact Nat.zero_add _ | rfl | omega)) ?_
            | refine any_c (_, []) (fun τ => op_ixB _ _ inferInstance rfl rfl rfl (Int.toNat _) (Int.toNat_of_nonneg (by omega)).symm (by omega) (by first | exact (Nat.zero_add _).trans (Nat.mul_one _) | exact Nat.zero_add _ | rfl | omega)) ?_
          refine any_n (rfl : _ = [_, _, _, _, _, _, _, _, _, _, _, _, _]) ?_
          refine any_end ⟨rfl, ?_⟩
          refine DL_c (op_stB _ _ inferInstance rfl rfl rfl rfl (by first | (simp only [Bun.cells_len, isl_len, bsl_len, psl_len, mrows_len, nsl_len, ws_len, List.length_map, mzero_len, nxL_len, wts_len, List.length_cons, List.length_nil]; omega) | (simp [Bun.cells_len]; done) | (simp [Bun.cells_len]; omega)) (putL_one _ _ _ (by first | (simp only [Bun.cells_len, isl_len, bsl_len, psl_len, mrows_len, nsl_len, ws_len, List.length_map, mzero_len, nxL_len, wts_len, List.length_cons, List.length_nil]; omega) | (simp [Bun.cells_len]; done) | (simp [Bun.cells_len]; omega)))) ?_
          refine DL_nil (hK22 _ ?_)
          clear hK22; try clear K22
          refine D_region ?_
          refine DL_c (op_mv _ (rfl : _ = AV.ref _ _ _)) ?_
          refine DL_c (op_ixA _ _ inferInstance rfl rfl rfl 1 rfl (by omega) (by first | exact (Nat.zero_add _).trans (Nat.mul_one _) | exact Nat.zero_add _ | rfl | omega)) ?_
          first
            | refine DL_c (op_ldB _ inferInstance rfl rfl (rfl : _ = some (AV.v (.int _ _)))) ?_
            | refine DL_c (op_ldR _ inferInstance rfl rfl (by first | rfl | exact isl_get _ _ (by omega) | exact bsl_get _ _ (by omega) | assumption | exact mrows_get _ _ (by omega) | exact nsl_get _ _ (by omega) | exact psl_get0 _ _ (by omega) | exact psl_get1 _ _ (by omega) | exact nrows_get _ _ (by omega)) rfl) ?_
          first
            | refine DL_c (op_ixR _ _ inferInstance rfl rfl rfl _ rfl (by omega) (by first | exact (Nat.zero_add _).trans (Nat.mul_one _) | exact Nat.zero_add _ | rfl | omega)) ?_
            | refine DL_c (op_ixR _ _ inferInstance rfl rfl rfl (Int.toNat _) (Int.toNat_of_nonneg (by omega)).symm (by omega) (by first | exact (Nat.zero_add _).trans (Nat.mul_one _) | exact Nat.zero_add _ | rfl | omega)) ?_
          first
            | refine DL_c (op_ldR _ inferInstance rfl rfl (by first | rfl | exact isl_get _ _ (by omega) | exact bsl_get _ _ (by omega) | assumption | exact mrows_get _ _ (by omega) | exact nsl_get _ _ (by omega) | exact psl_get0 _ _ (by omega) | exact psl_get1 _ _ (by omega) | exact nrows_get _ _ (by omega)) rfl) ?_
            | refine DL_c (op_ldB _ inferInstance rfl rfl (rfl : _ = some (AV.v (.int _ _)))) ?_
          first
            | refine DL_c (op_add _ _ rfl rfl (i64w (by omega))) ?_
            | refine DL_c (op_add _ _ rfl rfl rfl) ?_
          first
            | refine DL_c (op_ixR _ _ inferInstance rfl rfl rfl _ rfl (by omega) (by first | exact (Nat.zero_add _).trans (Nat.mul_one _) | exact Nat.zero_add _ | rfl | omega)) ?_
            | refine DL_c (op_ixR _ _ inferInstance rfl rfl rfl (Int.toNat _) (Int.toNat_of_nonneg (by omega)).symm (by omega) (by first | exact (Nat.zero_add _).trans (Nat.mul_one _) | exact Nat.zero_add _ | rfl | omega)) ?_
          first
            | refine DL_c (op_stB _ _ inferInstance rfl rfl rfl rfl (Nat.le_of_ble_eq_true rfl) rfl) ?_
            | refine DL_c (op_stR _ _ inferInstance rfl rfl rfl rfl rfl (by first | exact Nat.le_of_ble_eq_true rfl | (simp only [isl_len, bsl_len, psl_len, mrows_len, nsl_len, ws_len, List.length_map, mzero_len, nxL_len, wts_len, List.length_cons, List.length_nil]; omega) | (simp; done) | (simp; omega)) rfl) ?_
          refine DL_nil (hK20 _ ?_)
          clear hK20; try clear K20
          refine D_region ?_
          first
            | refine DL_c (op_add _ _ rfl rfl (i64w (by omega))) ?_
            | refine DL_c (op_add _ _ rfl rfl rfl) ?_
          refine DL_c (op_mv _ (rfl : _ = AV.v (.int _ _))) ?_
          refine DL_nil ?_
          refine ⟨k + 1, ?_, ?_, ?_⟩
          · first | omega | trivial | exact ⟨by omega, by omega⟩
          · skip
            refine Le.setB ((E.getD k (0, 0)).1.toNat) (71, 0) [] [] rfl ?_ ?_ trivial trivial (by kernel_rfl) (by kernel_rfl) ?_ ?_ rfl rfl rfl rfl (by first | exact fun _ _ => rfl | exact fun j hj => bun_other hj | exact fun j hj => aft_other hj) (by kernel_rfl) (fun _ => rfl)
            · exact ⟨(lvPr (id := (2, 0)) rfl), (lvPr (id := (6, 0)) rfl), (lvRr (id := (31, 0)) rfl rfl), (by repeat' (first | exact Lv.v | exact Lv.sl | exact Lv.fp | exact lvRr (id := (2, 0)) rfl rfl | exact lvPr (id := (2, 0)) rfl | exact lvRr (id := (6, 0)) rfl rfl | exact lvPr (id := (6, 0)) rfl | exact lvRr (id := (31, 0)) rfl rfl | exact lvPr (id := (31, 0)) rfl | exact lvRr (id := (11, 0)) rfl rfl | exact lvPr (id := (11, 0)) rfl | exact lvRr (id := (71, 0)) rfl rfl | exact lvPr (id := (71, 0)) rfl | exact lvRr (id := (29, 0)) rfl rfl | exact lvPr (id := (29, 0)) rfl | exact lvRr rfl rfl | exact lvPr rfl | exact Lv.mp | exact Lv.nil | exact Lv.z | exact Lv.dead | refine Lv.agg rfl ?_ | refine Lv.fn rfl ?_ rfl ?_ | refine Lv.tup rfl ?_ | refine Lv.ifc ?_ | exact lv_nil | refine lv_cons ?_ ?_)), (by repeat' (first | exact Lv.v | exact Lv.sl | exact Lv.fp | exact lvRr (id := (2, 0)) rfl rfl | exact lvPr (id := (2, 0)) rfl | exact lvRr (id := (6, 0)) rfl rfl | exact lvPr (id := (6, 0)) rfl | exact lvRr (id := (31, 0)) rfl rfl | exact lvPr (id := (31, 0)) rfl | exact lvRr (id := (11, 0)) rfl rfl | exact lvPr (id := (11, 0)) rfl | exact lvRr (id := (71, 0)) rfl rfl | exact lvPr (id := (71, 0)) rfl | exact lvRr (id := (29, 0)) rfl rfl | exact lvPr (id := (29, 0)) rfl | exact lvRr rfl rfl | exact lvPr rfl | exact Lv.mp | exact Lv.nil | exact Lv.z | exact Lv.dead | refine Lv.agg rfl ?_ | refine Lv.fn rfl ?_ rfl ?_ | refine Lv.tup rfl ?_ | refine Lv.ifc ?_ | exact lv_nil | refine lv_cons ?_ ?_)), (lvI (by first | rfl | omega | (simp; done) | (simp; omega) | assumption)), trivial⟩
            · exact ⟨(obB rfl rfl rfl rfl (by repeat' (first | exact Lv.v | exact Lv.sl | exact Lv.fp | exact lvRr (id := (2, 0)) rfl rfl | exact lvPr (id := (2, 0)) rfl | exact lvRr (id := (6, 0)) rfl rfl | exact lvPr (id := (6, 0)) rfl | exact lvRr (id := (31, 0)) rfl rfl | exact lvPr (id := (31, 0)) rfl | exact lvRr (id := (11, 0)) rfl rfl | exact lvPr (id := (11, 0)) rfl | exact lvRr (id := (71, 0)) rfl rfl | exact lvPr (id := (71, 0)) rfl | exact lvRr (id := (29, 0)) rfl rfl | exact lvPr (id := (29, 0)) rfl | exact lvRr rfl rfl | exact lvPr rfl | exact Lv.mp | exact Lv.nil | exact Lv.z | exact Lv.dead | refine Lv.agg rfl ?_ | refine Lv.fn rfl ?_ rfl ?_ | refine Lv.tup rfl ?_ | refine Lv.ifc ?_ | exact lv_nil | refine lv_cons ?_ ?_))), (obB rfl rfl rfl rfl (by repeat' (first | exact Lv.v | exact Lv.sl | exact Lv.fp | exact lvRr (id := (2, 0)) rfl rfl | exact lvPr (id := (2, 0)) rfl | exact lvRr (id := (6, 0)) rfl rfl | exact lvPr (id := (6, 0)) rfl | exact lvRr (id := (31, 0)) rfl rfl | exact lvPr (id := (31, 0)) rfl | exact lvRr (id := (11, 0)) rfl rfl | exact lvPr (id := (11, 0)) rfl | exact lvRr (id := (71, 0)) rfl rfl | exact lvPr (id := (71, 0)) rfl | exact lvRr (id := (29, 0)) rfl rfl | exact lvPr (id := (29, 0)) rfl | exact lvRr rfl rfl | exact lvPr rfl | exact Lv.mp | exact Lv.nil | exact Lv.z | exact Lv.dead | refine Lv.agg rfl ?_ | refine Lv.fn rfl ?_ rfl ?_ | refine Lv.tup rfl ?_ | refine Lv.ifc ?_ | exact lv_nil | refine lv_cons ?_ ?_))), (obR rfl rfl rfl (by rw [isl_put _ _ _ (by omega), wts_succ hE (by omega)])), trivial⟩
            · first | exact nx_set hE (by omega) | (simp; done)
            · first | exact nx_set hE (by omega) | (simp; done)
          · omega
        · skip
          obtain rfl : m = k := by omega
          subst hm
          refine D_exit ?_
          refine id (hK16 _ ?_)
          clear hK16; try clear K16
          refine D_seq fun K23 hK23 => ?_
          refine D_le (σ' := mkStI 187 [(2, _), (6, _), (7, _)] ([((2, 0), _), ((6, 0), _), ((31, 0), _)] ++ [((29, 0), _)]) [] []) (Le.frzFam 1000 rfl ⟨(iP rfl), (iP rfl), (iR rfl), trivial⟩ ⟨⟨rfl, ⟨_, rfl, lvO_id _⟩, rfl⟩, ⟨rfl, ⟨_, rfl, lvO_id _⟩, rfl⟩, ⟨rfl, ⟨_, rfl, lvO_id _⟩, rfl⟩, frzOuter rfl rfl (fun _ => rfl) (by kernel_rfl) rfl rfl, trivial⟩ (fun _ => rfl) trivial (by kernel_rfl)) ?_
          refine D_le (σ' := mkStI 187 [(2, _), (6, _), (7, _)] [((2, 0), _), ((6, 0), .box _ [.sl _ _]), ((31, 0), _)] [] []) (Le.mkJ [] [(29, 0)] rfl ⟨(iP rfl), (iP rfl), (iR rfl), trivial⟩ ⟨(obE rfl rfl rfl), (obB rfl rfl rfl rfl (lv_cons (Lv.frzR rfl rfl (downs_isl _)) lv_nil)), (obE rfl rfl rfl), trivial⟩ ⟨rfl, trivial⟩ trivial (by kernel_rfl)) ?_
          refine D_region ?_
          refine DL_c (op_asN (12, 0) _ 3 1 rfl rfl) ?_
          refine DL_nil (hK23 _ ?_)
          clear hK23; try clear K23
          refine D_seq fun K24 hK24 => ?_
          refine D_seq fun K25 hK25 => ?_
          refine D_region ?_
          first
            | refine DL_c (op_ldB _ inferInstance rfl rfl (rfl : _ = some (AV.v (.int _ _)))) ?_
            | refine DL_c (op_ldR _ inferInstance rfl rfl (by first | rfl | exact isl_get _ _ (by omega) | exact bsl_get _ _ (by omega) | assumption | exact mrows_get _ _ (by omega) | exact nsl_get _ _ (by omega) | exact psl_get0 _ _ (by omega) | exact psl_get1 _ _ (by omega) | exact nrows_get _ _ (by omega)) rfl) ?_
          refine DL_c (op_mv _ (rfl : _ = AV.v (.int _ _))) ?_
          refine DL_nil (hK25 _ ?_)
          clear hK25; try clear K25
          refine D_block ?_
          refine D_loopL (α := Nat) (fun i => i ≤ n) 187 [(2, _), (6, _), (7, _), (81, _)] [((2, 0), _), ((6, 0), _), ((31, 0), _)] (fun i => [(82, .v (.int .i64 (i : Int))), (12, .ref (12, 0) 0 (row0 n E i).length)]) (fun i => [((12, 0), .row 3 1 (nsl (row0 n E i)))]) [] [] (fun i => n - i) 0 ?_ (by
            refine Le.mkJ [] [] rfl ?_ ?_ trivial trivial ?_
            · exact ⟨(iP rfl), (iP rfl), (iR rfl), (iV rfl), (lvI (by first | rfl | omega | (simp; done) | (simp; omega) | assumption)), (lvRr rfl (by first | rfl | omega | (simp; done) | (simp; omega) | assumption)), trivial⟩
            · exact ⟨(obE rfl rfl rfl), (obE rfl rfl rfl), (obE rfl rfl rfl), (obR rfl rfl rfl (by first | rfl | omega | (simp; done) | (simp; omega) | assumption)), trivial⟩
            · kernel_rfl) ?_
          · first | omega | trivial | exact ⟨by omega, by omega⟩
          intro i hi
          refine D_seq fun K26 hK26 => ?_
          refine D_region ?_
          first
            | refine DL_c (op_lss _ _ rfl rfl (by assumption)) ?_
            | refine DL_c (op_lss _ _ rfl rfl rfl) ?_
          refine DL_nil (hK26 _ ?_)
          clear hK26; try clear K26
          refine D_seq fun K27 hK27 => ?_
          refine D_splitC rfl (fun hc83 => ?_) (fun hc83 => ?_)
          · skip
            have hwl := wts_len n E E.length
            have hrl := row0_len n E i
            refine D_skip (hK27 _ ?_)
            clear hK27; try clear K27
            refine D_seq fun K28 hK28 => ?_
            refine D_block ?_
            refine D_seq fun K29 hK29 => ?_
            refine D_region ?_
            refine DL_c (op_mv _ (rfl : _ = AV.v (.int _ _))) ?_
            refine DL_c (op_as _ (rfl : _ = AV.v (.int _ _))) ?_
            refine DL_nil (hK29 _ ?_)
            clear hK29; try clear K29
            refine D_seq fun K30 hK30 => ?_
            refine D_region ?_
            refine DL_c (op_mv _ (rfl : _ = AV.ref _ _ _)) ?_
            refine DL_c (op_mv _ (rfl : _ = AV.v (.int _ _))) ?_
            first
              | refine DL_c (op_ixR _ _ inferInstance rfl rfl rfl _ rfl (by omega) (by first | exact (Nat.zero_add _).trans (Nat.mul_one _) | exact Nat.zero_add _ | rfl | omega)) ?_
              | refine DL_c (op_ixR _ _ inferInstance rfl rfl rfl (Int.toNat _) (Int.toNat_of_nonneg (by omega)).symm (by omega) (by first | exact (Nat.zero_add _).trans (Nat.mul_one _) | exact Nat.zero_add _ | rfl | omega)) ?_
            first
              | refine DL_c (op_ldR _ inferInstance rfl rfl (by first | rfl | exact isl_get _ _ (by omega) | exact bsl_get _ _ (by omega) | assumption | exact mrows_get _ _ (by omega) | exact nsl_get _ _ (by omega) | exact psl_get0 _ _ (by omega) | exact psl_get1 _ _ (by omega) | exact nrows_get _ _ (by omega)) rfl) ?_
              | refine DL_c (op_ldB _ inferInstance rfl rfl (rfl : _ = some (AV.v (.int _ _)))) ?_
            first
              | refine DL_c (op_eql _ _ rfl rfl (by assumption)) ?_
              | refine DL_c (op_eql _ _ rfl rfl rfl) ?_
            refine DL_nil (hK30 _ ?_)
            clear hK30; try clear K30
            refine D_splitC rfl (fun hc89 => ?_) (fun hc89 => ?_)
            · skip
              have hry := row0_yes (n := n) (E := E) (i := i) hc89
              refine D_region ?_
              refine DL_c (op_mv _ (rfl : _ = AV.ref _ _ _)) ?_
              refine DL_c (op_mv _ (rfl : _ = AV.v (.int _ _))) ?_
              refine DL_c (op_bsF _ _ inferInstance rfl (by rfl) (by simp <;> rfl) (by decide) rfl) ?_
              refine DL_c (op_ap (93, 0) _ _ inferInstance rfl rfl (by first | rfl | omega | (simp only [isl_len, bsl_len, psl_len, mrows_len, nsl_len, ws_len, List.length_map, mzero_len, nxL_len, wts_len]; omega) | (simp; done) | (simp; omega)) (by first | exact .nil | (refine .sl ?_; first | (simp [isl]; done) | (simp [isl]; omega)) | (refine .ref rfl rfl ?_; first | (simp; done) | (simp; omega))) (by omega) rfl (rfl) (rfl)) ?_
              refine DL_c (op_as _ (rfl : _ = AV.ref _ _ _)) ?_
              refine DL_nil (hK28 _ ?_)
              clear hK28; try clear K28
              refine D_region ?_
              first
                | refine DL_c (op_add _ _ rfl rfl (i64w (by omega))) ?_
                | refine DL_c (op_add _ _ rfl rfl rfl) ?_
              refine DL_c (op_mv _ (rfl : _ = AV.v (.int _ _))) ?_
              refine DL_nil ?_
              refine ⟨i + 1, ?_, ?_, ?_⟩
              · first | omega | trivial | exact ⟨by omega, by omega⟩
              · skip
                refine Le.mkJ [((12, 0), (93, 0))] [] rfl ?_ ?_ trivial trivial ?_
                · exact ⟨(lvPr (id := (2, 0)) rfl), (lvPr (id := (6, 0)) rfl), (lvRr (id := (31, 0)) rfl rfl), (by repeat' (first | exact Lv.v | exact Lv.sl | exact Lv.fp | exact lvRr (id := (2, 0)) rfl rfl | exact lvPr (id := (2, 0)) rfl | exact lvRr (id := (6, 0)) rfl rfl | exact lvPr (id := (6, 0)) rfl | exact lvRr (id := (31, 0)) rfl rfl | exact lvPr (id := (31, 0)) rfl | exact lvRr (id := (12, 0)) rfl rfl | exact lvPr (id := (12, 0)) rfl | exact lvRr rfl rfl | exact lvPr rfl | exact Lv.mp | exact Lv.nil | exact Lv.z | exact Lv.dead | refine Lv.agg rfl ?_ | refine Lv.fn rfl ?_ rfl ?_ | refine Lv.tup rfl ?_ | refine Lv.ifc ?_ | exact lv_nil | refine lv_cons ?_ ?_)), (lvI (by first | rfl | omega | (first | (rw [hry, List.length_append]; rfl) | (rw [hry, ← nsl_append]; rfl)) | (simp; done) | (simp; omega) | assumption)), (lvRr rfl (by first | rfl | omega | (first | (rw [hry, List.length_append]; rfl) | (rw [hry, ← nsl_append]; rfl)) | (simp; done) | (simp; omega) | assumption)), trivial⟩
                · exact ⟨(obB rfl rfl rfl rfl (by repeat' (first | exact Lv.v | exact Lv.sl | exact Lv.fp | exact lvRr (id := (2, 0)) rfl rfl | exact lvPr (id := (2, 0)) rfl | exact lvRr (id := (6, 0)) rfl rfl | exact lvPr (id := (6, 0)) rfl | exact lvRr (id := (31, 0)) rfl rfl | exact lvPr (id := (31, 0)) rfl | exact lvRr (id := (12, 0)) rfl rfl | exact lvPr (id := (12, 0)) rfl | exact lvRr rfl rfl | exact lvPr rfl | exact Lv.mp | exact Lv.nil | exact Lv.z | exact Lv.dead | refine Lv.agg rfl ?_ | refine Lv.fn rfl ?_ rfl ?_ | refine Lv.tup rfl ?_ | refine Lv.ifc ?_ | exact lv_nil | refine lv_cons ?_ ?_))), (obB rfl rfl rfl rfl (by repeat' (first | exact Lv.v | exact Lv.sl | exact Lv.fp | exact lvRr (id := (2, 0)) rfl rfl | exact lvPr (id := (2, 0)) rfl | exact lvRr (id := (6, 0)) rfl rfl | exact lvPr (id := (6, 0)) rfl | exact lvRr (id := (31, 0)) rfl rfl | exact lvPr (id := (31, 0)) rfl | exact lvRr (id := (12, 0)) rfl rfl | exact lvPr (id := (12, 0)) rfl | exact lvRr rfl rfl | exact lvPr rfl | exact Lv.mp | exact Lv.nil | exact Lv.z | exact Lv.dead | refine Lv.agg rfl ?_ | refine Lv.fn rfl ?_ rfl ?_ | refine Lv.tup rfl ?_ | refine Lv.ifc ?_ | exact lv_nil | refine lv_cons ?_ ?_))), (obR rfl rfl rfl rfl), (obR rfl rfl rfl (by first | rfl | omega | (first | (rw [hry, List.length_append]; rfl) | (rw [hry, ← nsl_append]; rfl)) | (simp; done) | (simp; omega) | assumption)), trivial⟩
                · kernel_rfl
              · omega
            · skip
              have hry := row0_no (n := n) (E := E) (i := i) hc89
              refine D_skip (hK28 _ ?_)
              clear hK28; try clear K28
              refine D_region ?_
              first
                | refine DL_c (op_add _ _ rfl rfl (i64w (by omega))) ?_
                | refine DL_c (op_add _ _ rfl rfl rfl) ?_
              refine DL_c (op_mv _ (rfl : _ = AV.v (.int _ _))) ?_
              refine DL_nil ?_
              refine ⟨i + 1, ?_, ?_, ?_⟩
              · first | omega | trivial | exact ⟨by omega, by omega⟩
              · skip
                refine Le.mkJ [] [] rfl ?_ ?_ trivial trivial ?_
                · exact ⟨(iP rfl), (iP rfl), (iR rfl), (iV rfl), (lvI (by first | rfl | omega | (rw [hry]) | (simp; done) | (simp; omega) | assumption)), (lvRr rfl (by first | rfl | omega | (rw [hry]) | (simp; done) | (simp; omega) | assumption)), trivial⟩
                · exact ⟨(obE rfl rfl rfl), (obE rfl rfl rfl), (obE rfl rfl rfl), (obR rfl rfl rfl (by first | rfl | omega | (rw [hry]) | (simp; done) | (simp; omega) | assumption)), trivial⟩
                · kernel_rfl
              · omega
          · skip
            obtain rfl : n = i := by omega
            have hK0 := KInv.start n E
            refine D_exit ?_
            refine id (hK24 _ ?_)
            clear hK24; try clear K24
            refine D_seq fun K31 hK31 => ?_
            refine D_seq fun K32 hK32 => ?_
            refine D_region ?_
            refine DL_c (op_as _ (rfl : _ = AV.v (.int _ _))) ?_
            refine DL_nil (hK32 _ ?_)
            clear hK32; try clear K32
            refine D_block ?_
            refine D_loopL (α := Nat × List Nat × List Int) (fun x => KInv n E x.1 x.2.1 x.2.2) 187 [(2, _), (6, _), (7, _)] [((2, 0), _), ((6, 0), _)] (fun x => [(14, .v (.int .i64 (x.1 : Int))), (12, .ref (12, 0) 0 x.2.1.length)]) (fun x => [((12, 0), .row 3 1 (nsl x.2.1)), ((31, 0), .row 3 1 (isl x.2.2))]) [] [] (fun x => n - x.1) (0, row0 n E n, wts n E E.length) ?_ (by
              refine Le.mkJ [] [] rfl ?_ ?_ trivial trivial ?_
              · exact ⟨(iP rfl), (iP rfl), (iR rfl), (lvI (by first | rfl | omega | (simp; done) | (simp; omega) | assumption)), (lvRr rfl (by first | rfl | omega | (simp; done) | (simp; omega) | assumption)), trivial⟩
              · exact ⟨(obE rfl rfl rfl), (obE rfl rfl rfl), (obR rfl rfl rfl (by first | rfl | omega | (simp; done) | (simp; omega) | assumption)), (obR rfl rfl rfl (by first | rfl | omega | (simp; done) | (simp; omega) | assumption)), trivial⟩
              · kernel_rfl) ?_
            · exact hK0
            intro x hx
            have hkl := hx.kl
            have hrn := nodup_le n x.2.1 hx.nd hx.lt
            have hwl := hx.wl
            refine D_seq fun K33 hK33 => ?_
            refine D_seq fun K34 hK34 => ?_
            refine D_region ?_
            refine DL_c (op_mv _ (rfl : _ = AV.v (.int _ _))) ?_
            refine DL_c (op_mv _ (rfl : _ = AV.ref _ _ _)) ?_
            first
              | refine DL_c (op_lenR _ inferInstance rfl rfl) ?_
              | refine DL_c (op_lenB _ inferInstance rfl rfl) ?_
            first
              | refine DL_c (op_lss _ _ rfl rfl (by assumption)) ?_
              | refine DL_c (op_lss _ _ rfl rfl rfl) ?_
            refine DL_nil (hK34 _ ?_)
            clear hK34; try clear K34
            refine D_splitC rfl (fun hc98 => ?_) (fun hc98 => ?_)
            · skip
              have hI0 := IInv.start hx (by omega)
              have han := hx.lt (x.2.1.getD x.1 0) (getD_mem (by omega))
              have hnl := nxL_len n E E.length
              have hng : (nxL n E E.length).getD (x.2.1.getD x.1 0) [] = nxt E (x.2.1.getD x.1 0) := by rw [nxL_get han, List.take_length]
              have hnxl := nxt_len E (x.2.1.getD x.1 0)
              refine D_skip (hK33 _ ?_)
              clear hK33; try clear K33
              refine D_seq fun K35 hK35 => ?_
              refine D_block ?_
              refine D_seq fun K36 hK36 => ?_
              refine D_le (σ' := mkStI 187 [(2, _), (6, _), (7, _), (12, _), (14, _)] [((2, 0), _), ((6, 0), _), ((12, 0), _), ((31, 0), _)] [] []) (by
                refine Le.mkJ [] [] rfl ?_ ?_ trivial trivial ?_
                · exact ⟨(iP rfl), (iP rfl), (iR rfl), (iR rfl), (iV rfl), trivial⟩
                · exact ⟨(obE rfl rfl rfl), (obE rfl rfl rfl), (obE rfl rfl rfl), (obE rfl rfl rfl), trivial⟩
                · kernel_rfl) ?_
              refine D_anyL 9 [101, 102, 103, 104, 105, 106, 107, 108, 109] [] (by kernel_rfl) (by kernel_rfl) rfl (nodupO_iff rfl) (rfl : _ = [_, _, _, _, _, _, _, _, _]) (rfl : _ = []) ?_
              first
                | refine any_c (_, []) (fun τ => op_ldB _ inferInstance rfl rfl (rfl : _ = some (AV.sl _ _))) ?_
                | refine any_c (_, []) (fun τ => op_ldR _ inferInstance rfl rfl (by first | rfl | exact isl_get _ _ (by omega) | exact bsl_get _ _ (by omega) | assumption | exact mrows_get _ _ (by omega) | exact nsl_get _ _ (by omega) | exact psl_get0 _ _ (by omega) | exact psl_get1 _ _ (by omega) | exact nrows_get _ _ (by omega)) rfl) ?_
              refine any_n (rfl : _ = [_]) ?_
              refine any_c (_, []) (fun τ => op_mv _ (rfl : _ = AV.ref _ _ _)) ?_
              refine any_n (rfl : _ = [_, _]) ?_
              refine any_c (_, []) (fun τ => op_mv _ (rfl : _ = AV.v (.int _ _))) ?_
              refine any_n (rfl : _ = [_, _, _]) ?_
              first
                | refine any_c (_, []) (fun τ => op_ixR _ _ inferInstance rfl rfl rfl _ rfl (by omega) (by first | exact (Nat.zero_add _).trans (Nat.mul_one _) | exact Nat.zero_add _ | rfl | omega)) ?_
                | refine any_c (_, []) (fun τ => op_ixR _ _ inferInstance rfl rfl rfl (Int.toNat _) (Int.toNat_of_nonneg (by omega)).symm (by omega) (by first | exact (Nat.zero_add _).trans (Nat.mul_one _) | exact Nat.zero_add _ | rfl | omega)) ?_
              refine any_n (rfl : _ = [_, _, _, _]) ?_
              first
                | refine any_c (_, []) (fun τ => op_ldR _ inferInstance rfl rfl (by first | rfl | exact isl_get _ _ (by omega) | exact bsl_get _ _ (by omega) | assumption | exact mrows_get _ _ (by omega) | exact nsl_get _ _ (by omega) | exact psl_get0 _ _ (by omega) | exact psl_get1 _ _ (by omega) | exact nrows_get _ _ (by omega)) rfl) ?_
                | refine any_c (_, []) (fun τ => op_ldB _ inferInstance rfl rfl (rfl : _ = some (AV.v (.int _ _)))) ?_
              refine any_n (rfl : _ = [_, _, _, _, _]) ?_
              refine any_c (_, []) (fun τ => op_ixS _ _ inferInstance rfl rfl (x.2.1.getD x.1 0) rfl (by omega) (by simp [nrows]; omega) (Nat.mul_one _)) ?_
              refine any_n (rfl : _ = [_, _, _, _, _, _]) ?_
              refine any_c (_, []) (fun τ => op_ldF _ inferInstance rfl (by exact (nrows_get _ _ (by omega)).trans (by rw [hng])) rfl) ?_
              refine any_n (rfl : _ = [_, _, _, _, _, _, _]) ?_
              first
                | refine any_c (_, []) (fun τ => op_lenS _ inferInstance rfl) ?_
                | refine any_c (_, []) (fun τ => op_lenR _ inferInstance rfl rfl) ?_
                | refine any_c (_, []) (fun τ => op_lenN _ inferInstance rfl) ?_
                | refine any_c (_, []) (fun τ => op_lenB _ inferInstance rfl rfl) ?_
                | refine any_c (_, []) (fun τ => op_lenZ _ inferInstance rfl) ?_
              refine any_n (rfl : _ = [_, _, _, _, _, _, _, _]) ?_
              refine any_c (_, []) (fun τ => op_mv _ (rfl : _ = AV.v (.int _ _))) ?_
              refine any_n (rfl : _ = [_, _, _, _, _, _, _, _, _]) ?_
              refine any_end ⟨rfl, ?_⟩
              refine DL_nil (hK36 _ ?_)
              clear hK36; try clear K36
              refine D_block ?_
              refine D_loopL (α := Nat × List Nat × List Int) (fun y => y.1 ≤ (nxt E (x.2.1.getD x.1 0)).length ∧ IInv n E x.1 (x.2.1.take x.1) (x.2.1.getD x.1 0) y.1 y.2.1 y.2.2) 187 [(2, _), (6, _), (7, _), (14, _), (107, _), (108, _)] [((2, 0), _), ((6, 0), _)] (fun y => [(109, .v (.int .i64 (y.1 : Int))), (12, .ref (12, 0) 0 y.2.1.length)]) (fun y => [((12, 0), .row 3 1 (nsl y.2.1)), ((31, 0), .row 3 1 (isl y.2.2))]) [] [] (fun y => (nxt E (x.2.1.getD x.1 0)).length - y.1) (0, x.2.1, x.2.2) ?_ (by
                refine Le.mkJ [] [] rfl ?_ ?_ trivial trivial ?_
                · exact ⟨(iP rfl), (iP rfl), (iR rfl), (iV rfl), (by first | exact iS rfl | exact iR rfl | exact iV rfl | exact iZ rfl | exact iD rfl), (iV rfl), (lvI (by first | rfl | omega | (simp; done) | (simp; omega) | assumption)), (lvRr rfl (by first | rfl | omega | (simp; done) | (simp; omega) | assumption)), trivial⟩
                · exact ⟨(obE rfl rfl rfl), (obE rfl rfl rfl), (obR rfl rfl rfl (by first | rfl | omega | (simp; done) | (simp; omega) | assumption)), (obR rfl rfl rfl (by first | rfl | omega | (simp; done) | (simp; omega) | assumption)), trivial⟩
                · kernel_rfl) ?_
              · exact ⟨Nat.zero_le _, hI0⟩
              intro y hy
              obtain ⟨hj, hI⟩ := hy
              have hrn2 := nodup_le n y.2.1 hI.nd hI.lt
              have hwl2 := hI.wl
              refine D_seq fun K37 hK37 => ?_
              refine D_region ?_
              first
                | refine DL_c (op_lss _ _ rfl rfl (by assumption)) ?_
                | refine DL_c (op_lss _ _ rfl rfl rfl) ?_
              refine DL_nil (hK37 _ ?_)
              clear hK37; try clear K37
              refine D_seq fun K38 hK38 => ?_
              refine D_splitC rfl (fun hc110 => ?_) (fun hc110 => ?_)
              · skip
                have hb := nxt_in hE (a := x.2.1.getD x.1 0) (j := y.1) (by omega)
                obtain ⟨b, hbe⟩ := Int.eq_ofNat_of_zero_le hb.1
                have hpos := hI.pos (by omega) (b := b) (by omega) hbe
                have hdg := deg_le E (x.2.1.take x.1) b
                have hwb := hI.w b (by omega)
                refine D_skip (hK38 _ ?_)
                clear hK38; try clear K38
                refine D_seq fun K39 hK39 => ?_
                refine D_block ?_
                refine D_seq fun K40 hK40 => ?_
                refine D_region ?_
                first
                  | refine DL_c (op_ixS _ _ inferInstance rfl rfl _ rfl (by omega) (by first | assumption | decide | (simp only [isl_len, bsl_len, psl_len, mrows_len, nsl_len, ws_len, List.length_map, mzero_len, nxL_len, wts_len]; omega) | (simp; done) | (simp; omega) | (simp [isl, bsl]; omega)) (by first | exact Nat.mul_one _ | rfl | omega)) ?_
                  | refine DL_c (op_ixS _ _ inferInstance rfl rfl (Int.toNat _) (Int.toNat_of_nonneg (by omega)).symm (by omega) (by first | assumption | decide | (simp only [isl_len, bsl_len, psl_len, mrows_len, nsl_len, ws_len, List.length_map, mzero_len, nxL_len, wts_len]; omega) | (simp; done) | (simp; omega) | (simp [isl, bsl]; omega)) (by first | exact Nat.mul_one _ | rfl | omega)) ?_
                  | refine DL_c (op_ixR _ _ inferInstance rfl rfl rfl _ rfl (by omega) (by first | exact (Nat.zero_add _).trans (Nat.mul_one _) | exact Nat.zero_add _ | rfl | omega)) ?_
                  | refine DL_c (op_ixR _ _ inferInstance rfl rfl rfl (Int.toNat _) (Int.toNat_of_nonneg (by omega)).symm (by omega) (by first | exact (Nat.zero_add _).trans (Nat.mul_one _) | exact Nat.zero_add _ | rfl | omega)) ?_
                  | refine DL_c (op_ixB _ _ inferInstance rfl rfl rfl _ rfl (by omega) (by first | exact (Nat.zero_add _).trans (Nat.mul_one _) | exact Nat.zero_add _ | rfl | omega)) ?_
                  | refine DL_c (op_ixB _ _ inferInstance rfl rfl rfl (Int.toNat _) (Int.toNat_of_nonneg (by omega)).symm (by omega) (by first | exact (Nat.zero_add _).trans (Nat.mul_one _) | exact Nat.zero_add _ | rfl | omega)) ?_
                first
                  | refine DL_c (op_ldB _ inferInstance rfl rfl (rfl : _ = some (AV.v (.int _ _)))) ?_
                  | refine DL_c (op_ldR _ inferInstance rfl rfl (by first | rfl | exact isl_get _ _ (by omega) | exact bsl_get _ _ (by omega) | assumption | exact mrows_get _ _ (by omega) | exact nsl_get _ _ (by omega) | exact psl_get0 _ _ (by omega) | exact psl_get1 _ _ (by omega) | exact nrows_get _ _ (by omega)) rfl) ?_
                  | refine DL_c (op_ldF _ inferInstance rfl (by first | rfl | exact isl_get _ _ (by omega) | exact bsl_get _ _ (by omega) | assumption | exact mrows_get _ _ (by omega) | exact nsl_get _ _ (by omega) | exact psl_get0 _ _ (by omega) | exact psl_get1 _ _ (by omega) | exact nrows_get _ _ (by omega)) rfl) ?_
                refine DL_c (op_as _ (rfl : _ = AV.v (.int _ _))) ?_
                refine DL_nil (hK40 _ ?_)
                clear hK40; try clear K40
                refine D_seq fun K41 hK41 => ?_
                refine D_region ?_
                refine DL_c (op_mv _ (rfl : _ = AV.ref _ _ _)) ?_
                refine DL_c (op_mv _ (rfl : _ = AV.v (.int _ _))) ?_
                refine DL_c (op_ixR _ _ inferInstance rfl rfl rfl b hbe (by omega) (by exact (Nat.zero_add _).trans (Nat.mul_one _))) ?_
                refine DL_c (op_ldR _ inferInstance rfl rfl (by exact isl_get _ _ (by omega)) rfl) ?_
                first
                  | refine DL_c (op_sub _ _ rfl rfl (i64w (by omega))) ?_
                  | refine DL_c (op_sub _ _ rfl rfl rfl) ?_
                refine DL_c (op_ixR _ _ inferInstance rfl rfl rfl b hbe (by omega) (by exact (Nat.zero_add _).trans (Nat.mul_one _))) ?_
                refine DL_c (op_stR _ _ inferInstance rfl rfl rfl rfl rfl (by simp; omega) (isl_put _ _ _ (by omega))) ?_
                refine DL_nil (hK41 _ ?_)
                clear hK41; try clear K41
                refine D_seq fun K42 hK42 => ?_
                refine D_region ?_
                refine DL_c (op_mv _ (rfl : _ = AV.ref _ _ _)) ?_
                refine DL_c (op_mv _ (rfl : _ = AV.v (.int _ _))) ?_
                refine DL_c (op_ixR _ _ inferInstance rfl rfl rfl b hbe (by omega) (by exact (Nat.zero_add _).trans (Nat.mul_one _))) ?_
                refine DL_c (op_ldR _ inferInstance rfl rfl (by exact isl_get_set _ _ _ (by omega)) rfl) ?_
                first
                  | refine DL_c (op_eql _ _ rfl rfl (by assumption)) ?_
                  | refine DL_c (op_eql _ _ rfl rfl rfl) ?_
                refine DL_nil (hK42 _ ?_)
                clear hK42; try clear K42
                refine D_splitC rfl (fun hc123 => ?_) (fun hc123 => ?_)
                · skip
                  refine D_le (σ' := mkStI 187 [(2, _), (6, _), (7, _), (12, _), (14, _), (16, _), (107, _), (108, _), (109, _)] [((2, 0), _), ((6, 0), _), ((12, 0), _), ((31, 0), _)] [] []) (by
                    refine Le.mkJ [] [] rfl ?_ ?_ trivial trivial ?_
                    · exact ⟨(iP rfl), (iP rfl), (iR rfl), (iR rfl), (iV rfl), (iV rfl), (by first | exact iS rfl | exact iR rfl | exact iV rfl | exact iZ rfl | exact iD rfl), (iV rfl), (iV rfl), trivial⟩
                    · exact ⟨(obE rfl rfl rfl), (obE rfl rfl rfl), (obE rfl rfl rfl), (obE rfl rfl rfl), trivial⟩
                    · kernel_rfl) ?_
                  refine D_region ?_
                  refine DL_c (op_mv _ (rfl : _ = AV.ref _ _ _)) ?_
                  refine DL_c (op_mv _ (rfl : _ = AV.v (.int _ _))) ?_
                  refine DL_c (op_bsF _ _ inferInstance rfl (by rfl) (by simp <;> rfl) (by decide) rfl) ?_
                  refine DL_c (op_ap (127, 0) _ _ inferInstance rfl rfl (by first | rfl | omega | (simp only [isl_len, bsl_len, psl_len, mrows_len, nsl_len, ws_len, List.length_map, mzero_len, nxL_len, wts_len]; omega) | (simp; done) | (simp; omega)) (by first | exact .nil | (refine .sl ?_; first | (simp [isl]; done) | (simp [isl]; omega)) | (refine .ref rfl rfl ?_; first | (simp; done) | (simp; omega))) (by omega) rfl (rfl) (rfl)) ?_
                  refine DL_c (op_as _ (rfl : _ = AV.ref _ _ _)) ?_
                  refine DL_nil (hK39 _ ?_)
                  clear hK39; try clear K39
                  refine D_region ?_
                  first
                    | refine DL_c (op_add _ _ rfl rfl (i64w (by omega))) ?_
                    | refine DL_c (op_add _ _ rfl rfl rfl) ?_
                  refine DL_c (op_mv _ (rfl : _ = AV.v (.int _ _))) ?_
                  refine DL_nil ?_
                  refine ⟨(y.1 + 1, y.2.1 ++ [b], y.2.2.set b (y.2.2.getD b 0 - 1)), ?_, ?_, ?_⟩
                  · exact ⟨by simp only; omega, hI.push (by omega) (by omega) hbe hc123⟩
                  · skip
                    refine Le.mkJ [((12, 0), (127, 0))] [] rfl ?_ ?_ trivial trivial ?_
                    · exact ⟨(lvPr (id := (2, 0)) rfl), (lvPr (id := (6, 0)) rfl), (lvRr (id := (31, 0)) rfl rfl), (by repeat' (first | exact Lv.v | exact Lv.sl | exact Lv.fp | exact lvRr (id := (2, 0)) rfl rfl | exact lvPr (id := (2, 0)) rfl | exact lvRr (id := (6, 0)) rfl rfl | exact lvPr (id := (6, 0)) rfl | exact lvRr (id := (31, 0)) rfl rfl | exact lvPr (id := (31, 0)) rfl | exact lvRr (id := (12, 0)) rfl rfl | exact lvPr (id := (12, 0)) rfl | exact lvRr rfl rfl | exact lvPr rfl | exact Lv.mp | exact Lv.nil | exact Lv.z | exact Lv.dead | refine Lv.agg rfl ?_ | refine Lv.fn rfl ?_ rfl ?_ | refine Lv.tup rfl ?_ | refine Lv.ifc ?_ | exact lv_nil | refine lv_cons ?_ ?_)), (by repeat' (first | exact Lv.v | exact Lv.sl | exact Lv.fp | exact lvRr (id := (2, 0)) rfl rfl | exact lvPr (id := (2, 0)) rfl | exact lvRr (id := (6, 0)) rfl rfl | exact lvPr (id := (6, 0)) rfl | exact lvRr (id := (31, 0)) rfl rfl | exact lvPr (id := (31, 0)) rfl | exact lvRr (id := (12, 0)) rfl rfl | exact lvPr (id := (12, 0)) rfl | exact lvRr rfl rfl | exact lvPr rfl | exact Lv.mp | exact Lv.nil | exact Lv.z | exact Lv.dead | refine Lv.agg rfl ?_ | refine Lv.fn rfl ?_ rfl ?_ | refine Lv.tup rfl ?_ | refine Lv.ifc ?_ | exact lv_nil | refine lv_cons ?_ ?_)), (by repeat' (first | exact Lv.v | exact Lv.sl | exact Lv.fp | exact lvRr (id := (2, 0)) rfl rfl | exact lvPr (id := (2, 0)) rfl | exact lvRr (id := (6, 0)) rfl rfl | exact lvPr (id := (6, 0)) rfl | exact lvRr (id := (31, 0)) rfl rfl | exact lvPr (id := (31, 0)) rfl | exact lvRr (id := (12, 0)) rfl rfl | exact lvPr (id := (12, 0)) rfl | exact lvRr rfl rfl | exact lvPr rfl | exact Lv.mp | exact Lv.nil | exact Lv.z | exact Lv.dead | refine Lv.agg rfl ?_ | refine Lv.fn rfl ?_ rfl ?_ | refine Lv.tup rfl ?_ | refine Lv.ifc ?_ | exact lv_nil | refine lv_cons ?_ ?_)), (lvI (by first | rfl | omega | (first | (simp only [List.length_append]; rfl) | (simp only [← nsl_append, hbe]; rfl)) | (simp; done) | (simp; omega) | assumption)), (lvRr rfl (by first | rfl | omega | (first | (simp only [List.length_append]; rfl) | (simp only [← nsl_append, hbe]; rfl)) | (simp; done) | (simp; omega) | assumption)), trivial⟩
                    · exact ⟨(obB rfl rfl rfl rfl (by repeat' (first | exact Lv.v | exact Lv.sl | exact Lv.fp | exact lvRr (id := (2, 0)) rfl rfl | exact lvPr (id := (2, 0)) rfl | exact lvRr (id := (6, 0)) rfl rfl | exact lvPr (id := (6, 0)) rfl | exact lvRr (id := (31, 0)) rfl rfl | exact lvPr (id := (31, 0)) rfl | exact lvRr (id := (12, 0)) rfl rfl | exact lvPr (id := (12, 0)) rfl | exact lvRr rfl rfl | exact lvPr rfl | exact Lv.mp | exact Lv.nil | exact Lv.z | exact Lv.dead | refine Lv.agg rfl ?_ | refine Lv.fn rfl ?_ rfl ?_ | refine Lv.tup rfl ?_ | refine Lv.ifc ?_ | exact lv_nil | refine lv_cons ?_ ?_))), (obB rfl rfl rfl rfl (by repeat' (first | exact Lv.v | exact Lv.sl | exact Lv.fp | exact lvRr (id := (2, 0)) rfl rfl | exact lvPr (id := (2, 0)) rfl | exact lvRr (id := (6, 0)) rfl rfl | exact lvPr (id := (6, 0)) rfl | exact lvRr (id := (31, 0)) rfl rfl | exact lvPr (id := (31, 0)) rfl | exact lvRr (id := (12, 0)) rfl rfl | exact lvPr (id := (12, 0)) rfl | exact lvRr rfl rfl | exact lvPr rfl | exact Lv.mp | exact Lv.nil | exact Lv.z | exact Lv.dead | refine Lv.agg rfl ?_ | refine Lv.fn rfl ?_ rfl ?_ | refine Lv.tup rfl ?_ | refine Lv.ifc ?_ | exact lv_nil | refine lv_cons ?_ ?_))), (obR rfl rfl rfl (by first | rfl | omega | (first | (simp only [List.length_append]; rfl) | (simp only [← nsl_append, hbe]; rfl)) | (simp; done) | (simp; omega) | assumption)), (obR rfl rfl rfl (by first | rfl | omega | (first | (simp only [List.length_append]; rfl) | (simp only [← nsl_append, hbe]; rfl)) | (simp; done) | (simp; omega) | assumption)), trivial⟩
                    · kernel_rfl
                  · simp only; omega
                · skip
                  refine D_skip (hK39 _ ?_)
                  clear hK39; try clear K39
                  refine D_le (σ' := mkStI 187 [(2, _), (6, _), (7, _), (12, _), (14, _), (107, _), (108, _), (109, _)] [((2, 0), _), ((6, 0), _), ((12, 0), _), ((31, 0), _)] [] []) (by
                    refine Le.mkJ [] [] rfl ?_ ?_ trivial trivial ?_
                    · exact ⟨(iP rfl), (iP rfl), (iR rfl), (iR rfl), (iV rfl), (by first | exact iS rfl | exact iR rfl | exact iV rfl | exact iZ rfl | exact iD rfl), (iV rfl), (iV rfl), trivial⟩
                    · exact ⟨(obE rfl rfl rfl), (obE rfl rfl rfl), (obE rfl rfl rfl), (obE rfl rfl rfl), trivial⟩
                    · kernel_rfl) ?_
                  refine D_region ?_
                  first
                    | refine DL_c (op_add _ _ rfl rfl (i64w (by omega))) ?_
                    | refine DL_c (op_add _ _ rfl rfl rfl) ?_
                  refine DL_c (op_mv _ (rfl : _ = AV.v (.int _ _))) ?_
                  refine DL_nil ?_
                  refine ⟨(y.1 + 1, y.2.1, y.2.2.set b (y.2.2.getD b 0 - 1)), ?_, ?_, ?_⟩
                  · exact ⟨by simp only; omega, hI.more (by omega) (by omega) hbe hc123⟩
                  · skip
                    refine Le.mkJ [] [] rfl ?_ ?_ trivial trivial ?_
                    · exact ⟨(iP rfl), (iP rfl), (iR rfl), (iV rfl), (by first | exact iS rfl | exact iR rfl | exact iV rfl | exact iZ rfl | exact iD rfl), (iV rfl), (lvI (by first | rfl | omega | (simp; done) | (simp; omega) | assumption)), (lvRr rfl (by first | rfl | omega | (simp; done) | (simp; omega) | assumption)), trivial⟩
                    · exact ⟨(obE rfl rfl rfl), (obE rfl rfl rfl), (obR rfl rfl rfl (by first | rfl | omega | (simp; done) | (simp; omega) | assumption)), (obR rfl rfl rfl (by first | rfl | omega | (simp; done) | (simp; omega) | assumption)), trivial⟩
                    · kernel_rfl
                  · simp only; omega
              · skip
                have hjj : y.1 = (nxt E (x.2.1.getD x.1 0)).length := by omega
                have hK1 : KInv n E (x.1 + 1) y.2.1 y.2.2 := by
                  have := hI
                  rw [hjj] at this
                  exact this.done_
                refine D_exit ?_
                refine id (hK35 _ ?_)
                clear hK35; try clear K35
                refine D_region ?_
                refine DL_c (op_mv _ (rfl : _ = AV.v (.int _ _))) ?_
                first
                  | refine DL_c (op_add _ _ rfl rfl (i64w (by omega))) ?_
                  | refine DL_c (op_add _ _ rfl rfl rfl) ?_
                refine DL_c (op_as _ (rfl : _ = AV.v (.int _ _))) ?_
                refine DL_nil ?_
                refine ⟨(x.1 + 1, y.2.1, y.2.2), ?_, ?_, ?_⟩
                · exact hK1
                · skip
                  refine Le.mkJ [] [] rfl ?_ ?_ trivial trivial ?_
                  · exact ⟨(iP rfl), (iP rfl), (iR rfl), (lvI (by first | rfl | omega | (simp; done) | (simp; omega) | assumption)), (lvRr rfl (by first | rfl | omega | (simp; done) | (simp; omega) | assumption)), trivial⟩
                  · exact ⟨(obE rfl rfl rfl), (obE rfl rfl rfl), (obR rfl rfl rfl (by first | rfl | omega | (simp; done) | (simp; omega) | assumption)), (obR rfl rfl rfl (by first | rfl | omega | (simp; done) | (simp; omega) | assumption)), trivial⟩
                  · kernel_rfl
                · simp only; omega
            · skip
              have hxk : x.1 = x.2.1.length := by omega
              have hKf : KInv n E x.2.1.length x.2.1 x.2.2 := by
                have := hx
                rw [hxk] at this
                exact this
              refine D_exit ?_
              refine id (hK31 _ ?_)
              clear hK31; try clear K31
              refine D_seq fun K43 hK43 => ?_
              refine D_seq fun K44 hK44 => ?_
              refine D_region ?_
              refine DL_c (op_mv _ (rfl : _ = AV.ref _ _ _)) ?_
              first
                | refine DL_c (op_lenR _ inferInstance rfl rfl) ?_
                | refine DL_c (op_lenB _ inferInstance rfl rfl) ?_
              first
                | refine DL_c (op_ldB _ inferInstance rfl rfl (rfl : _ = some (AV.v (.int _ _)))) ?_
                | refine DL_c (op_ldR _ inferInstance rfl rfl (by first | rfl | exact isl_get _ _ (by omega) | exact bsl_get _ _ (by omega) | assumption | exact mrows_get _ _ (by omega) | exact nsl_get _ _ (by omega) | exact psl_get0 _ _ (by omega) | exact psl_get1 _ _ (by omega) | exact nrows_get _ _ (by omega)) rfl) ?_
              first
                | refine DL_c (op_lss _ _ rfl rfl (by assumption)) ?_
                | refine DL_c (op_lss _ _ rfl rfl rfl) ?_
              refine DL_nil (hK44 _ ?_)
              clear hK44; try clear K44
              refine D_splitC rfl (fun hc132 => ?_) (fun hc132 => ?_)
              · skip
                refine D_seq fun K45 hK45 => ?_
                refine D_region ?_
                refine DL_c (op_as _ (rfl : _ = AV.v _)) ?_
                refine DL_c (op_as _ (rfl : _ = AV.v (.int _ _))) ?_
                refine DL_nil (hK45 _ ?_)
                clear hK45; try clear K45
                refine D_ret ?_
                have hcy := hKf.fin_cycle hE (by omega)
                rw [show newR n E = .tup [.v (.pointer none), .v (.int .i64 9)] from by unfold newR; rw [if_neg (by rw [hE]; simp), if_pos hcy]]
                exact ret2 (.inr rfl) rfl (.tmp (rfl : _ = AV.v _)) (.tmp (rfl : _ = AV.v _)) (Le.out [] [] (.tup rfl (lv_cons .v (lv_cons .v lv_nil))) rfl rfl rfl trivial trivial)
              · skip
                have hfull : x.2.1.length = n := by omega
                have hcy := hKf.fin_ok hfull
                have hcwl : (cloW n E).length = n := by simp [cloW]
                have hnE : ∀ a : Nat, ((a : Int), (a : Int)) ∉ E := fun a h => hcy ⟨a, ((Clo.one h).lt hE).1, .one h⟩
                have hri : (x.2.1.map fun (x : Nat) => (x : Int)).length = x.2.1.length := by simp
                refine D_skip (hK43 _ ?_)
                clear hK43; try clear K43
                refine D_seq fun K46 hK46 => ?_
                refine D_le (Le.frzS (ys := isl (x.2.1.map fun (x : Nat) => (x : Int))) 12 rfl rfl rfl (by rw [List.drop_zero, Nat.mul_one, nsl_isl]; exact List.take_of_length_le (by simp)) (by simp)) ?_
                refine D_anyL 6 [133, 134, 135, 136, 137, 17] [(135, 0), (137, 0), (17, 0)] (by kernel_rfl) (by kernel_rfl) rfl (nodupO_iff rfl) (rfl : _ = [_, _, _, _, _, _]) (rfl : _ = [_]) ?_
                first
                  | refine any_c (_, []) (fun τ => op_ldB _ inferInstance rfl rfl (rfl : _ = some (AV.v (.int _ _)))) ?_
                  | refine any_c (_, []) (fun τ => op_ldR _ inferInstance rfl rfl (by first | rfl | exact isl_get _ _ (by omega) | exact bsl_get _ _ (by omega) | assumption | exact mrows_get _ _ (by omega) | exact nsl_get _ _ (by omega) | exact psl_get0 _ _ (by omega) | exact psl_get1 _ _ (by omega) | exact nrows_get _ _ (by omega)) rfl) ?_
                refine any_n (rfl : _ = [_]) ?_
                first
                  | refine any_c (_, []) (fun τ => op_ldB _ inferInstance rfl rfl (rfl : _ = some (AV.v (.int _ _)))) ?_
                  | refine any_c (_, []) (fun τ => op_ldR _ inferInstance rfl rfl (by first | rfl | exact isl_get _ _ (by omega) | exact bsl_get _ _ (by omega) | assumption | exact mrows_get _ _ (by omega) | exact nsl_get _ _ (by omega) | exact psl_get0 _ _ (by omega) | exact psl_get1 _ _ (by omega) | exact nrows_get _ _ (by omega)) rfl) ?_
                refine any_n (rfl : _ = [_, _]) ?_
                refine any_c (_, [((135, 0), _)]) (fun τ => op_mkB (135, 0) _ _ inferInstance rfl rfl n rfl rfl (by omega) rfl (rep_nil n)) ?_
                refine any_n (rfl : _ = [_, _, _]) ?_
                refine any_c (_, []) (fun τ => op_build (ys := [.v (.int .i64 (n : Int)), .ref (135, 0) 0 n]) _ inferInstance rfl rfl) ?_
                refine any_n (rfl : _ = [_, _, _, _]) ?_
                refine any_c (_, [((137, 0), _)]) (fun τ => op_box (137, 0) _ rfl rfl) ?_
                refine any_n (rfl : _ = [_, _, _, _, _]) ?_
                refine any_c (_, [((17, 0), _)]) (fun τ => op_alloc (17, 0) inferInstance rfl rfl) ?_
                refine any_n (rfl : _ = [_, _, _, _, _, _]) ?_
                refine any_end ⟨rfl, ?_⟩
                refine DL_c (op_stB _ _ inferInstance rfl rfl rfl rfl (Nat.le_of_ble_eq_true rfl) rfl) ?_
                refine DL_nil (hK46 _ ?_)
                clear hK46; try clear K46
                refine D_seq fun K47 hK47 => ?_
                refine D_seq fun K48 hK48 => ?_
                refine D_le (σ' := mkStI 187 [(2, _), (6, _), (12, _), (17, _)] [((2, 0), _), ((6, 0), _), ((135, 0), .box 109 (List.replicate n (.v (.slice none 0 0)))), ((137, 0), _), ((17, 0), _)] [] []) (by
                  refine Le.mkJ [] [] rfl ?_ ?_ trivial trivial ?_
                  · exact ⟨(iP rfl), (iP rfl), (iS rfl), (iP rfl), trivial⟩
                  · exact ⟨(obE rfl rfl rfl), (obE rfl rfl rfl), (obE rfl rfl rfl), (obE rfl rfl rfl), (obE rfl rfl rfl), trivial⟩
                  · (simp only [List.cons_append, List.nil_append, obsWithin, Cells.within]; first | rw [withins_scells_set _ _ _ _ _ _ (by rfl)] | rw [withins_scells] | rw [withins_nils] | skip); kernel_rfl) ?_
                refine D_region ?_
                refine DL_c (op_mv _ (rfl : _ = AV.sl _ _)) ?_
                refine DL_c (op_callH inferInstance (by repeat' (first | exact argsLv_nil | refine argsLv_cons ?_ ?_ | exact Lv.v | exact lvI (by omega) | exact Lv.sl | exact Lv.fp | exact Lv.nil | refine Lv.agg rfl ?_ | refine Lv.fn rfl ?_ rfl ?_ | exact lv_nil | refine lv_cons ?_ ?_ | exact Lv.z0)) (back_spec _ _) rfl rfl) ?_
                refine DL_nil (hK48 _ ?_)
                clear hK48; try clear K48
                refine D_block ?_
                refine D_le (σ' := mkStI 187 [(2, _), (6, _), (17, _), (139, _)] [((2, 0), .box 3 [.v (.int .i64 (n : Int))]), ((6, 0), .box 60 [.sl n (nrows (nxL n E E.length))]), ((17, 0), .box 23 [.ptr (137, 0) 0]), ((137, 0), .box 104 [.v (.int .i64 (n : Int)), .ref (135, 0) 0 n]), ((135, 0), .box 109 (scells (sts n E (([] : List (Int × { a : Nat // a < n })).map fun x => x.2.1))))] [] []) (by
                  refine Le.mkJ [] [] rfl ?_ ?_ trivial trivial ?_
                  · exact ⟨(iP rfl), (iP rfl), (iP rfl), (by first | exact iN rfl | exact iV rfl | exact iD rfl), trivial⟩
                  · exact ⟨(obB rfl rfl rfl rfl (lv_cons (lvI (by first | rfl | omega | (simp; done) | (simp; omega) | assumption)) lv_nil)), (obB rfl rfl rfl rfl (lv_cons (lvSr (by first | rfl | omega | (simp; done) | (simp; omega) | assumption) (by first | rfl | omega | (simp; done) | (simp; omega) | assumption)) lv_nil)), (obB rfl rfl rfl rfl (lv_cons (by repeat' (first | exact Lv.v | exact Lv.sl | exact Lv.fp | exact lvRr rfl rfl | exact lvPr rfl | exact Lv.mp | exact Lv.nil | exact Lv.z | exact Lv.dead | refine Lv.agg rfl ?_ | refine Lv.fn rfl ?_ rfl ?_ | refine Lv.tup rfl ?_ | refine Lv.ifc ?_ | exact lv_nil | refine lv_cons ?_ ?_)) lv_nil)), (obB rfl rfl rfl rfl (lv_cons (lvI (by first | rfl | omega | (simp; done) | (simp; omega) | assumption)) (lv_cons (lvRr rfl (by first | rfl | omega | (simp; done) | (simp; omega) | assumption)) lv_nil))), (by exact obB rfl rfl rfl (by simp [sts]) (scells_nil n)), trivial⟩
                  · (simp only [List.cons_append, List.nil_append, obsWithin, Cells.within]; first | rw [withins_scells_set _ _ _ _ _ _ (by rfl)] | rw [withins_scells] | rw [withins_nils] | skip); kernel_rfl) ?_
                refine D_rangeF inferInstance (fun pre : List (Int × { a : Nat // a < n }) => [((2, 0), .box 3 [.v (.int .i64 (n : Int))]), ((6, 0), .box 60 [.sl n (nrows (nxL n E E.length))]), ((17, 0), .box 23 [.ptr (137, 0) 0]), ((137, 0), .box 104 [.v (.int .i64 (n : Int)), .ref (135, 0) 0 n]), ((135, 0), .box 109 (scells (sts n E (pre.map fun x => x.2.1))))]) [(2, 0), (6, 0), (17, 0), (137, 0), (135, 0)] (fun x => #[.int .i64 x.1, .int .i64 (x.2.1 : Int)]) (bzs n x.2.1 hKf.lt) (fun x => [(140, .int .i64 x.1), (141, .int .i64 (x.2.1 : Int)), (19, .int .i64 (x.2.1 : Int))]) rfl (back_seq' _ (x.2.1.map fun (x : Nat) => (x : Int)) hri (by rw [hri]; omega) _ _ (bzs_len n x.2.1 hKf.lt) (bzs_at n x.2.1 hKf.lt)) (fun _ => rfl) (asg2 (α := Int × { a : Nat // a < n }) (fun x => .int .i64 x.1) (fun x => .int .i64 (x.2.1 : Int)) (by kernel_rfl) (by kernel_rfl)) (fun _ => rfl) (fun _ => rfl) (by kernel_rfl) ?_ ?_
                · intro pre z
                  have hz := z.2.2
                  refine D_block ?_
                  refine D_seq fun K49 hK49 => ?_
                  refine D_le (σ' := mkStI 187 [(2, _), (6, _), (17, _), (19, _), (139, _)] [((2, 0), _), ((6, 0), _), ((17, 0), _), ((137, 0), _), ((135, 0), .box 109 (scells (sts n E (pre.map fun x => x.2.1))))] [(2, 0), (6, 0), (17, 0), (137, 0), (135, 0)] [(2, 0), (6, 0), (17, 0), (137, 0), (135, 0)]) (by
                    refine Le.mkJ [] [] rfl ?_ ?_ trivial ⟨rfl, rfl, rfl, rfl, rfl, trivial⟩ ?_
                    · exact ⟨(iP rfl), (iP rfl), (iP rfl), (by first | exact iV rfl | exact iS rfl | exact iR rfl | exact iP rfl | exact iA rfl | exact iF rfl | exact iN rfl | exact iI rfl | exact iT rfl | exact iM rfl | exact iZ rfl | exact iD rfl), (by first | exact iN rfl | exact iV rfl | exact iD rfl), trivial⟩
                    · exact ⟨(obE rfl rfl rfl), (obE rfl rfl rfl), (obE rfl rfl rfl), (obE rfl rfl rfl), (obE rfl rfl rfl), trivial⟩
                    · (simp only [List.cons_append, List.nil_append, obsWithin, Cells.within]; first | rw [withins_scells_set _ _ _ _ _ _ (by rfl)] | rw [withins_scells] | rw [withins_nils] | skip); kernel_rfl) ?_
                  refine D_anyL 10 [142, 143, 144, 145, 146, 147, 148, 149, 150, 151] [(150, 0)] (by kernel_rfl) (by kernel_rfl) rfl (nodupO_iff rfl) (rfl : _ = [_, _, _, _, _, _, _, _, _, _]) (rfl : _ = [_]) ?_
                  first
                    | refine any_c (_, []) (fun τ => op_ldB _ inferInstance rfl rfl (rfl : _ = some (AV.ptr _ _))) ?_
                    | refine any_c (_, []) (fun τ => op_ldR _ inferInstance rfl rfl (by first | rfl | exact isl_get _ _ (by omega) | exact bsl_get _ _ (by omega) | assumption | exact mrows_get _ _ (by omega) | exact nsl_get _ _ (by omega) | exact psl_get0 _ _ (by omega) | exact psl_get1 _ _ (by omega) | exact nrows_get _ _ (by omega)) rfl) ?_
                  refine any_n (rfl : _ = [_]) ?_
                  refine any_c (_, []) (fun τ => op_nilp _ rfl rfl) ?_
                  refine any_n (rfl : _ = [_, _]) ?_
                  first
                    | refine any_c (_, []) (fun τ => op_fldP _ inferInstance rfl rfl rfl) ?_
                    | refine any_c (_, []) (fun τ => op_fldF _ inferInstance rfl rfl) ?_
                  refine any_n (rfl : _ = [_, _, _]) ?_
                  first
                    | refine any_c (_, []) (fun τ => op_ldB _ inferInstance rfl rfl (rfl : _ = some (AV.ref _ _ _))) ?_
                    | refine any_c (_, []) (fun τ => op_ldR _ inferInstance rfl rfl (by first | rfl | exact isl_get _ _ (by omega) | exact bsl_get _ _ (by omega) | assumption | exact mrows_get _ _ (by omega) | exact nsl_get _ _ (by omega) | exact psl_get0 _ _ (by omega) | exact psl_get1 _ _ (by omega) | exact nrows_get _ _ (by omega)) rfl) ?_
                  refine any_n (rfl : _ = [_, _, _, _]) ?_
                  refine any_c (_, []) (fun τ => op_mv _ (rfl : _ = AV.v (.int _ _))) ?_
                  refine any_n (rfl : _ = [_, _, _, _, _]) ?_
                  first
                    | refine any_c (_, []) (fun τ => op_ldB _ inferInstance rfl rfl (rfl : _ = some (AV.v (.int _ _)))) ?_
                    | refine any_c (_, []) (fun τ => op_ldR _ inferInstance rfl rfl (by first | rfl | exact isl_get _ _ (by omega) | exact bsl_get _ _ (by omega) | assumption | exact mrows_get _ _ (by omega) | exact nsl_get _ _ (by omega) | exact psl_get0 _ _ (by omega) | exact psl_get1 _ _ (by omega) | exact nrows_get _ _ (by omega)) rfl) ?_
                  refine any_n (rfl : _ = [_, _, _, _, _, _]) ?_
                  first
                    | refine any_c (_, []) (fun τ => op_add _ _ rfl rfl (i64w (by omega))) ?_
                    | refine any_c (_, []) (fun τ => op_add _ _ rfl rfl rfl) ?_
                  refine any_n (rfl : _ = [_, _, _, _, _, _, _]) ?_
                  refine any_c (_, []) (fun τ => op_quo _ _ rfl rfl (by omega) (words1 n (by omega) hn)) ?_
                  refine any_n (rfl : _ = [_, _, _, _, _, _, _, _]) ?_
                  refine any_c (_, [((150, 0), _)]) (fun τ => op_mk (xs := ul [0]) (150, 0) _ _ inferInstance rfl rfl 1 rfl rfl (by omega) rfl (by rfl)) ?_
                  refine any_n (rfl : _ = [_, _, _, _, _, _, _, _, _]) ?_
                  refine any_c (_, []) (fun τ => op_ixB _ _ inferInstance rfl rfl rfl z.2.1 rfl z.2.2 (by exact (Nat.zero_add _).trans (Nat.mul_one _))) ?_
                  refine any_n (rfl : _ = [_, _, _, _, _, _, _, _, _, _]) ?_
                  refine any_end ⟨rfl, ?_⟩
                  refine DL_c (op_stB _ _ inferInstance rfl rfl rfl rfl (by simp only [scells_len, sts_len, List.length_cons, List.length_nil]; omega) (putL_one _ _ _ (by simp only [scells_len, sts_len]; omega))) ?_
                  refine DL_nil (hK49 _ ?_)
                  clear hK49; try clear K49
                  refine D_seq fun K50 hK50 => ?_
                  refine D_region ?_
                  first
                    | refine DL_c (op_ldB _ inferInstance rfl rfl (rfl : _ = some (AV.sl _ _))) ?_
                    | refine DL_c (op_ldR _ inferInstance rfl rfl (by first | rfl | exact isl_get _ _ (by omega) | exact bsl_get _ _ (by omega) | assumption | exact mrows_get _ _ (by omega) | exact nsl_get _ _ (by omega) | exact psl_get0 _ _ (by omega) | exact psl_get1 _ _ (by omega) | exact nrows_get _ _ (by omega)) rfl) ?_
                  refine DL_c (op_mv _ (rfl : _ = AV.v (.int _ _))) ?_
                  refine DL_c (op_ixS _ _ inferInstance rfl rfl z.2.1 rfl hz (by simp [nrows]; omega) (Nat.mul_one _)) ?_
                  refine DL_c (op_ldF _ inferInstance rfl (by exact (nrows_get _ _ (by simp only [nxL_len]; omega)).trans (by rw [nxL_get hz, List.take_length])) rfl) ?_
                  first
                    | refine DL_c (op_lenS _ inferInstance rfl) ?_
                    | refine DL_c (op_lenR _ inferInstance rfl rfl) ?_
                    | refine DL_c (op_lenN _ inferInstance rfl) ?_
                    | refine DL_c (op_lenB _ inferInstance rfl rfl) ?_
                    | refine DL_c (op_lenZ _ inferInstance rfl) ?_
                  refine DL_c (op_mv _ (rfl : _ = AV.v (.int _ _))) ?_
                  refine DL_nil (hK50 _ ?_)
                  clear hK50; try clear K50
                  refine D_block ?_
                  refine D_loopL (α := Nat) (fun j => j ≤ (nxt E z.2.1).length) 187 [(2, _), (6, _), (17, _), (19, _), (139, _), (155, _), (156, _)] [((2, 0), _), ((6, 0), _), ((17, 0), _), ((137, 0), _), ((135, 0), .box 109 ((scells (sts n E (pre.map fun x => x.2.1))).set z.2.1 (.ref (150, 0) 0 1)))] (fun j => [(157, .v (.int .i64 (j : Int)))]) (fun j => [((150, 0), .row 124 1 (ul [wd (sts n E (pre.map fun x => x.2.1)) (nxt E z.2.1) j]))]) [(2, 0), (6, 0), (17, 0), (137, 0), (135, 0)] [(2, 0), (6, 0), (17, 0), (137, 0), (135, 0)] (fun j => (nxt E z.2.1).length - j) 0 ?_ (by
                    refine Le.mkJ [] [] rfl ?_ ?_ trivial ⟨rfl, rfl, rfl, rfl, rfl, trivial⟩ ?_
                    · exact ⟨(iP rfl), (iP rfl), (iP rfl), (by first | exact iV rfl | exact iS rfl | exact iR rfl | exact iP rfl | exact iA rfl | exact iF rfl | exact iN rfl | exact iI rfl | exact iT rfl | exact iM rfl | exact iZ rfl | exact iD rfl), (by first | exact iN rfl | exact iV rfl | exact iD rfl), (by first | exact iS rfl | exact iR rfl | exact iV rfl | exact iZ rfl | exact iD rfl), (iV rfl), (lvI (by first | rfl | omega | (simp; done) | (simp; omega) | assumption)), trivial⟩
                    · exact ⟨(obE rfl rfl rfl), (obE rfl rfl rfl), (obE rfl rfl rfl), (obE rfl rfl rfl), (obE rfl rfl rfl), (obR rfl rfl rfl (by first | rfl | omega | (simp; done) | (simp; omega) | assumption)), trivial⟩
                    · (simp only [List.cons_append, List.nil_append, obsWithin, Cells.within]; first | rw [withins_scells_set _ _ _ _ _ _ (by rfl)] | rw [withins_scells] | rw [withins_nils] | skip); kernel_rfl) ?_
                  · first | omega | trivial | exact ⟨by omega, by omega⟩
                  intro j hj
                  refine D_seq fun K51 hK51 => ?_
                  refine D_region ?_
                  first
                    | refine DL_c (op_lss _ _ rfl rfl (by assumption)) ?_
                    | refine DL_c (op_lss _ _ rfl rfl rfl) ?_
                  refine DL_nil (hK51 _ ?_)
                  clear hK51; try clear K51
                  refine D_seq fun K52 hK52 => ?_
                  refine D_splitC rfl (fun hc158 => ?_) (fun hc158 => ?_)
                  · skip
                    have hb := nxt_in hE (a := z.2.1) (j := j) (by omega)
                    obtain ⟨b, hbe⟩ := Int.eq_ofNat_of_zero_le hb.1
                    have hnx := nxt_len E z.2.1
                    have hjl0 : j < (nxt E z.2.1).length := by omega
                    have hbm : (nxt E z.2.1).getD j 0 ∈ nxt E z.2.1 := by rw [List.getD_eq_getElem?_getD, List.getElem?_eq_getElem hjl0]; exact List.getElem_mem _
                    have hba : b ≠ z.2.1 := fun e => hnE z.2.1 (by have := nxt_mem.1 hbm; rw [hbe, e] at this; exact this)
                    have hG := Gd.sts hE hn (pre.map fun x => x.2.1)
                    have hwd := wd_lt hG (nxt_lt hE hn z.2.1) j (by omega)
                    have hbn : b < n := by omega
                    have hbb := bit_lt b (by omega)
                    have hor : wd (sts n E (pre.map fun x => x.2.1)) (nxt E z.2.1) j ||| 2 ^ b < 18446744073709551616 := Nat.or_lt_two_pow (n := 64) hwd hbb
                    have hsl := sts_len n E (pre.map fun x => x.2.1)
                    refine D_skip (hK52 _ ?_)
                    clear hK52; try clear K52
                    refine D_seq fun K53 hK53 => ?_
                    refine D_block ?_
                    refine D_seq fun K54 hK54 => ?_
                    refine D_region ?_
                    first
                      | refine DL_c (op_ixS _ _ inferInstance rfl rfl _ rfl (by omega) (by first | assumption | decide | (simp only [isl_len, bsl_len, psl_len, mrows_len, nsl_len, ws_len, List.length_map, mzero_len, nxL_len, wts_len]; omega) | (simp; done) | (simp; omega) | (simp [isl, bsl]; omega)) (by first | exact Nat.mul_one _ | rfl | omega)) ?_
                      | refine DL_c (op_ixS _ _ inferInstance rfl rfl (Int.toNat _) (Int.toNat_of_nonneg (by omega)).symm (by omega) (by first | assumption | decide | (simp only [isl_len, bsl_len, psl_len, mrows_len, nsl_len, ws_len, List.length_map, mzero_len, nxL_len, wts_len]; omega) | (simp; done) | (simp; omega) | (simp [isl, bsl]; omega)) (by first | exact Nat.mul_one _ | rfl | omega)) ?_
                      | refine DL_c (op_ixR _ _ inferInstance rfl rfl rfl _ rfl (by omega) (by first | exact (Nat.zero_add _).trans (Nat.mul_one _) | exact Nat.zero_add _ | rfl | omega)) ?_
                      | refine DL_c (op_ixR _ _ inferInstance rfl rfl rfl (Int.toNat _) (Int.toNat_of_nonneg (by omega)).symm (by omega) (by first | exact (Nat.zero_add _).trans (Nat.mul_one _) | exact Nat.zero_add _ | rfl | omega)) ?_
                      | refine DL_c (op_ixB _ _ inferInstance rfl rfl rfl _ rfl (by omega) (by first | exact (Nat.zero_add _).trans (Nat.mul_one _) | exact Nat.zero_add _ | rfl | omega)) ?_
                      | refine DL_c (op_ixB _ _ inferInstance rfl rfl rfl (Int.toNat _) (Int.toNat_of_nonneg (by omega)).symm (by omega) (by first | exact (Nat.zero_add _).trans (Nat.mul_one _) | exact Nat.zero_add _ | rfl | omega)) ?_
                    first
                      | refine DL_c (op_ldB _ inferInstance rfl rfl (rfl : _ = some (AV.v (.int _ _)))) ?_
                      | refine DL_c (op_ldR _ inferInstance rfl rfl (by first | rfl | exact isl_get _ _ (by omega) | exact bsl_get _ _ (by omega) | assumption | exact mrows_get _ _ (by omega) | exact nsl_get _ _ (by omega) | exact psl_get0 _ _ (by omega) | exact psl_get1 _ _ (by omega) | exact nrows_get _ _ (by omega)) rfl) ?_
                      | refine DL_c (op_ldF _ inferInstance rfl (by first | rfl | exact isl_get _ _ (by omega) | exact bsl_get _ _ (by omega) | assumption | exact mrows_get _ _ (by omega) | exact nsl_get _ _ (by omega) | exact psl_get0 _ _ (by omega) | exact psl_get1 _ _ (by omega) | exact nrows_get _ _ (by omega)) rfl) ?_
                    refine DL_c (op_as _ (rfl : _ = AV.v (.int _ _))) ?_
                    refine DL_nil (hK54 _ ?_)
                    clear hK54; try clear K54
                    refine D_seq fun K55 hK55 => ?_
                    refine D_region ?_
                    first
                      | refine DL_c (op_ldB _ inferInstance rfl rfl (rfl : _ = some (AV.ptr _ _))) ?_
                      | refine DL_c (op_ldR _ inferInstance rfl rfl (by first | rfl | exact isl_get _ _ (by omega) | exact bsl_get _ _ (by omega) | assumption | exact mrows_get _ _ (by omega) | exact nsl_get _ _ (by omega) | exact psl_get0 _ _ (by omega) | exact psl_get1 _ _ (by omega) | exact nrows_get _ _ (by omega)) rfl) ?_
                    refine DL_c (op_nilp _ rfl rfl) ?_
                    first
                      | refine DL_c (op_fldP _ inferInstance rfl rfl rfl) ?_
                      | refine DL_c (op_fldF _ inferInstance rfl rfl) ?_
                    first
                      | refine DL_c (op_ldB _ inferInstance rfl rfl (rfl : _ = some (AV.ref _ _ _))) ?_
                      | refine DL_c (op_ldR _ inferInstance rfl rfl (by first | rfl | exact isl_get _ _ (by omega) | exact bsl_get _ _ (by omega) | assumption | exact mrows_get _ _ (by omega) | exact nsl_get _ _ (by omega) | exact psl_get0 _ _ (by omega) | exact psl_get1 _ _ (by omega) | exact nrows_get _ _ (by omega)) rfl) ?_
                    refine DL_c (op_mv _ (rfl : _ = AV.v (.int _ _))) ?_
                    refine DL_c (op_ixB _ _ inferInstance rfl rfl rfl z.2.1 rfl hz (by exact (Nat.zero_add _).trans (Nat.mul_one _))) ?_
                    refine DL_c (op_ldB _ inferInstance rfl rfl (scells_self _ _ _ (by rw [hsl]; exact hz))) ?_
                    refine DL_c (op_mv _ (rfl : _ = AV.v (.int _ _))) ?_
                    refine DL_c (op_callR inferInstance [((0, 9), (150, 0))] ?_ (add_spec (wd (sts n E (pre.map fun x => x.2.1)) (nxt E z.2.1) j) b hwd (by omega)) ⟨⟨rfl, ⟨_, rfl, .rowE rfl⟩, rfl⟩, trivial⟩ ⟨rfl, trivial⟩ (by kernel_rfl)) ?_
                    · repeat' (first | exact argsR_nil | refine argsR_cons ?_ ?_ | exact Lv.v | exact lvI (by assumption) | exact lvI (by omega) | exact Lv.sl | exact Lv.fp | exact Lv.nil | exact lvRr rfl rfl | exact lvPr rfl | refine Lv.agg rfl ?_ | refine Lv.fn rfl ?_ rfl ?_ | refine Lv.ifc ?_ | exact lv_nil | refine lv_cons ?_ ?_)
                    refine DL_nil (hK55 _ ?_)
                    clear hK55; try clear K55
                    refine D_le (σ' := mkStI 187 [(2, _), (6, _), (17, _), (19, _), (21, _), (139, _), (155, _), (156, _), (157, _)] [((2, 0), _), ((6, 0), _), ((17, 0), _), ((137, 0), _), ((135, 0), .box 109 ((scells (sts n E (pre.map fun x => x.2.1))).set z.2.1 (.ref (150, 0) 0 1))), ((150, 0), _)] [(2, 0), (6, 0), (17, 0), (137, 0), (135, 0)] [(2, 0), (6, 0), (17, 0), (137, 0), (135, 0)]) (by
                      refine Le.mkJ [] [] rfl ?_ ?_ trivial ⟨rfl, rfl, rfl, rfl, rfl, trivial⟩ ?_
                      · exact ⟨(iP rfl), (iP rfl), (iP rfl), (by first | exact iV rfl | exact iS rfl | exact iR rfl | exact iP rfl | exact iA rfl | exact iF rfl | exact iN rfl | exact iI rfl | exact iT rfl | exact iM rfl | exact iZ rfl | exact iD rfl), (iV rfl), (by first | exact iN rfl | exact iV rfl | exact iD rfl), (by first | exact iS rfl | exact iR rfl | exact iV rfl | exact iZ rfl | exact iD rfl), (iV rfl), (iV rfl), trivial⟩
                      · exact ⟨(obE rfl rfl rfl), (obE rfl rfl rfl), (obE rfl rfl rfl), (obE rfl rfl rfl), (obE rfl rfl rfl), (obE rfl rfl rfl), trivial⟩
                      · (simp only [List.cons_append, List.nil_append, obsWithin, Cells.within]; first | rw [withins_scells_set _ _ _ _ _ _ (by rfl)] | rw [withins_scells] | rw [withins_nils] | skip); kernel_rfl) ?_
                    refine D_anyL 14 [170, 171, 172, 173, 174, 175, 176, 177, 178, 179, 180, 181, 182, 183] [] (by kernel_rfl) (by kernel_rfl) rfl (nodupO_iff rfl) (rfl : _ = [_, _, _, _, _, _, _, _, _, _, _, _, _, _]) (rfl : _ = [_]) ?_
                    first
                      | refine any_c (_, []) (fun τ => op_ldB _ inferInstance rfl rfl (rfl : _ = some (AV.ptr _ _))) ?_
                      | refine any_c (_, []) (fun τ => op_ldR _ inferInstance rfl rfl (by first | rfl | exact isl_get _ _ (by omega) | exact bsl_get _ _ (by omega) | assumption | exact mrows_get _ _ (by omega) | exact nsl_get _ _ (by omega) | exact psl_get0 _ _ (by omega) | exact psl_get1 _ _ (by omega) | exact nrows_get _ _ (by omega)) rfl) ?_
                    refine any_n (rfl : _ = [_]) ?_
                    refine any_c (_, []) (fun τ => op_nilp _ rfl rfl) ?_
                    refine any_n (rfl : _ = [_, _]) ?_
                    first
                      | refine any_c (_, []) (fun τ => op_fldP _ inferInstance rfl rfl rfl) ?_
                      | refine any_c (_, []) (fun τ => op_fldF _ inferInstance rfl rfl) ?_
                    refine any_n (rfl : _ = [_, _, _]) ?_
                    first
                      | refine any_c (_, []) (fun τ => op_ldB _ inferInstance rfl rfl (rfl : _ = some (AV.ref _ _ _))) ?_
                      | refine any_c (_, []) (fun τ => op_ldR _ inferInstance rfl rfl (by first | rfl | exact isl_get _ _ (by omega) | exact bsl_get _ _ (by omega) | assumption | exact mrows_get _ _ (by omega) | exact nsl_get _ _ (by omega) | exact psl_get0 _ _ (by omega) | exact psl_get1 _ _ (by omega) | exact nrows_get _ _ (by omega)) rfl) ?_
                    refine any_n (rfl : _ = [_, _, _, _]) ?_
                    refine any_c (_, []) (fun τ => op_mv _ (rfl : _ = AV.v (.int _ _))) ?_
                    refine any_n (rfl : _ = [_, _, _, _, _]) ?_
                    refine any_c (_, []) (fun τ => op_ixB _ _ inferInstance rfl rfl rfl z.2.1 rfl hz (by exact (Nat.zero_add _).trans (Nat.mul_one _))) ?_
                    refine any_n (rfl : _ = [_, _, _, _, _, _]) ?_
                    refine any_c (_, []) (fun τ => op_ldB _ inferInstance rfl rfl (scells_self _ _ _ (by rw [hsl]; exact hz))) ?_
                    refine any_n (rfl : _ = [_, _, _, _, _, _, _]) ?_
                    first
                      | refine any_c (_, []) (fun τ => op_ldB _ inferInstance rfl rfl (rfl : _ = some (AV.ptr _ _))) ?_
                      | refine any_c (_, []) (fun τ => op_ldR _ inferInstance rfl rfl (by first | rfl | exact isl_get _ _ (by omega) | exact bsl_get _ _ (by omega) | assumption | exact mrows_get _ _ (by omega) | exact nsl_get _ _ (by omega) | exact psl_get0 _ _ (by omega) | exact psl_get1 _ _ (by omega) | exact nrows_get _ _ (by omega)) rfl) ?_
                    refine any_n (rfl : _ = [_, _, _, _, _, _, _, _]) ?_
                    refine any_c (_, []) (fun τ => op_nilp _ rfl rfl) ?_
                    refine any_n (rfl : _ = [_, _, _, _, _, _, _, _, _]) ?_
                    first
                      | refine any_c (_, []) (fun τ => op_fldP _ inferInstance rfl rfl rfl) ?_
                      | refine any_c (_, []) (fun τ => op_fldF _ inferInstance rfl rfl) ?_
                    refine any_n (rfl : _ = [_, _, _, _, _, _, _, _, _, _]) ?_
                    first
                      | refine any_c (_, []) (fun τ => op_ldB _ inferInstance rfl rfl (rfl : _ = some (AV.ref _ _ _))) ?_
                      | refine any_c (_, []) (fun τ => op_ldR _ inferInstance rfl rfl (by first | rfl | exact isl_get _ _ (by omega) | exact bsl_get _ _ (by omega) | assumption | exact mrows_get _ _ (by omega) | exact nsl_get _ _ (by omega) | exact psl_get0 _ _ (by omega) | exact psl_get1 _ _ (by omega) | exact nrows_get _ _ (by omega)) rfl) ?_
                    refine any_n (rfl : _ = [_, _, _, _, _, _, _, _, _, _, _]) ?_
                    refine any_c (_, []) (fun τ => op_mv _ (rfl : _ = AV.v (.int _ _))) ?_
                    refine any_n (rfl : _ = [_, _, _, _, _, _, _, _, _, _, _, _]) ?_
                    refine any_c (_, []) (fun τ => op_ixB _ _ inferInstance rfl rfl rfl b hbe hbn (by exact (Nat.zero_add _).trans (Nat.mul_one _))) ?_
                    refine any_n (rfl : _ = [_, _, _, _, _, _, _, _, _, _, _, _, _]) ?_
                    refine any_c (_, []) (fun τ => op_ldB _ inferInstance rfl rfl (scells_other _ _ _ _ (by rw [hsl]; exact hbn) hba)) ?_
                    refine any_n (rfl : _ = [_, _, _, _, _, _, _, _, _, _, _, _, _, _]) ?_
                    refine any_end ⟨rfl, ?_⟩
                    refine DL_c (op_callR inferInstance [((0, 9), (150, 0))] ?_ (joinL_spec (wd (sts n E (pre.map fun x => x.2.1)) (nxt E z.2.1) j ||| 2 ^ b) ((sts n E (pre.map fun x => x.2.1)).getD b []) (hG b).1 hor (hG b).2) ⟨⟨rfl, ⟨_, rfl, .rowE rfl⟩, rfl⟩, trivial⟩ ⟨rfl, trivial⟩ (by kernel_rfl)) ?_
                    · repeat' (first | exact argsR_nil | refine argsR_cons ?_ ?_ | exact Lv.v | exact lvI (by assumption) | exact lvI (by omega) | exact Lv.sl | exact Lv.fp | exact Lv.nil | exact lvRr rfl rfl | exact lvPr rfl | refine Lv.agg rfl ?_ | refine Lv.fn rfl ?_ rfl ?_ | refine Lv.ifc ?_ | exact lv_nil | refine lv_cons ?_ ?_)
                    refine DL_nil (hK53 _ ?_)
                    clear hK53; try clear K53
                    refine D_le (σ' := mkStI 187 [(2, _), (6, _), (17, _), (19, _), (139, _), (155, _), (156, _), (157, _)] [((2, 0), _), ((6, 0), _), ((17, 0), _), ((137, 0), _), ((135, 0), .box 109 ((scells (sts n E (pre.map fun x => x.2.1))).set z.2.1 (.ref (150, 0) 0 1))), ((150, 0), _)] [(2, 0), (6, 0), (17, 0), (137, 0), (135, 0)] [(2, 0), (6, 0), (17, 0), (137, 0), (135, 0)]) (by
                      refine Le.mkJ [] [] rfl ?_ ?_ trivial ⟨rfl, rfl, rfl, rfl, rfl, trivial⟩ ?_
                      · exact ⟨(iP rfl), (iP rfl), (iP rfl), (by first | exact iV rfl | exact iS rfl | exact iR rfl | exact iP rfl | exact iA rfl | exact iF rfl | exact iN rfl | exact iI rfl | exact iT rfl | exact iM rfl | exact iZ rfl | exact iD rfl), (by first | exact iN rfl | exact iV rfl | exact iD rfl), (by first | exact iS rfl | exact iR rfl | exact iV rfl | exact iZ rfl | exact iD rfl), (iV rfl), (iV rfl), trivial⟩
                      · exact ⟨(obE rfl rfl rfl), (obE rfl rfl rfl), (obE rfl rfl rfl), (obE rfl rfl rfl), (obE rfl rfl rfl), (obE rfl rfl rfl), trivial⟩
                      · (simp only [List.cons_append, List.nil_append, obsWithin, Cells.within]; first | rw [withins_scells_set _ _ _ _ _ _ (by rfl)] | rw [withins_scells] | rw [withins_nils] | skip); kernel_rfl) ?_
                    refine D_region ?_
                    first
                      | refine DL_c (op_add _ _ rfl rfl (i64w (by omega))) ?_
                      | refine DL_c (op_add _ _ rfl rfl rfl) ?_
                    refine DL_c (op_mv _ (rfl : _ = AV.v (.int _ _))) ?_
                    refine DL_nil ?_
                    refine ⟨j + 1, ?_, ?_, ?_⟩
                    · first | omega | trivial | exact ⟨by omega, by omega⟩
                    · skip
                      refine Le.mkJ [] [] rfl ?_ ?_ trivial ⟨rfl, rfl, rfl, rfl, rfl, trivial⟩ ?_
                      · exact ⟨(iP rfl), (iP rfl), (iP rfl), (by first | exact iV rfl | exact iS rfl | exact iR rfl | exact iP rfl | exact iA rfl | exact iF rfl | exact iN rfl | exact iI rfl | exact iT rfl | exact iM rfl | exact iZ rfl | exact iD rfl), (by first | exact iN rfl | exact iV rfl | exact iD rfl), (by first | exact iS rfl | exact iR rfl | exact iV rfl | exact iZ rfl | exact iD rfl), (iV rfl), (lvI (by first | rfl | omega | (simp; done) | (simp; omega) | assumption)), trivial⟩
                      · exact ⟨(obE rfl rfl rfl), (obE rfl rfl rfl), (obE rfl rfl rfl), (obE rfl rfl rfl), (obE rfl rfl rfl), (obR rfl rfl rfl (by rw [wd_succ (by omega), f1, hbe, Int.toNat_natCast])), trivial⟩
                      · (simp only [List.cons_append, List.nil_append, obsWithin, Cells.within]; first | rw [withins_scells_set _ _ _ _ _ _ (by rfl)] | rw [withins_scells] | rw [withins_nils] | skip); kernel_rfl
                    · omega
                  · skip
                    have hjl : j = (nxt E z.2.1).length := by omega
                    refine D_exit ?_
                    refine id ?_
                    have hst : sts n E ((pre ++ [z]).map fun x => x.2.1) = (sts n E (pre.map fun x => x.2.1)).set z.2.1 [wd (sts n E (pre.map fun x => x.2.1)) (nxt E z.2.1) j] := by rw [List.map_append, List.map_cons, List.map_nil, sts_snoc, stp, hjl]
                    refine Le.mkJ [] [(150, 0)] rfl ?_ ?_ ⟨rfl, trivial⟩ ⟨rfl, rfl, rfl, rfl, rfl, trivial⟩ ?_
                    · exact trivial
                    · exact ⟨(obB rfl rfl rfl rfl (lv_cons (lvI (by first | rfl | omega | (simp; done) | (simp; omega) | assumption)) lv_nil)), (obB rfl rfl rfl rfl (lv_cons (lvSr (by first | rfl | omega | (simp; done) | (simp; omega) | assumption) (by first | rfl | omega | (simp; done) | (simp; omega) | assumption)) lv_nil)), (obB rfl rfl rfl rfl (lv_cons (by repeat' (first | exact Lv.v | exact Lv.sl | exact Lv.fp | exact lvRr rfl rfl | exact lvPr rfl | exact Lv.mp | exact Lv.nil | exact Lv.z | exact Lv.dead | refine Lv.agg rfl ?_ | refine Lv.fn rfl ?_ rfl ?_ | refine Lv.tup rfl ?_ | refine Lv.ifc ?_ | exact lv_nil | refine lv_cons ?_ ?_)) lv_nil)), (obB rfl rfl rfl rfl (lv_cons (lvI (by first | rfl | omega | (simp; done) | (simp; omega) | assumption)) (lv_cons (lvRr rfl (by first | rfl | omega | (simp; done) | (simp; omega) | assumption)) lv_nil))), (by rw [hst]; exact obB rfl rfl rfl (by simp) (scells_done rfl rfl)), trivial⟩
                    · (simp only [List.cons_append, List.nil_append, obsWithin, Cells.within]; first | rw [withins_scells_set _ _ _ _ _ _ (by rfl)] | rw [withins_scells] | rw [withins_nils] | skip); kernel_rfl
                · skip
                  refine (hK47 _ ?_)
                  clear hK47; try clear K47
                  refine D_seq fun K56 hK56 => ?_
                  refine D_le (Le.mkJ (n := 187) (slots := [(17, .ptr (17, 0) 0)]) (obs := [((17, 0), .box 23 [.ptr (137, 0) 0]), ((137, 0), .box 104 [.v (.int .i64 (n : Int)), .sl n (ws (cloW n E))])]) (I := []) (Pn := []) [] [(135, 0)] rfl ⟨lvPr rfl, trivial⟩ ⟨obE rfl rfl rfl, obB rfl rfl rfl rfl (lv_cons .v (lv_cons (.frzR rfl rfl (by rw [bzs_row, sts_all hE hKf hfull]; exact downs_scells _)) lv_nil)), trivial⟩ ⟨rfl, trivial⟩ trivial (by kernel_rfl)) ?_
                  refine D_region ?_
                  first
                    | refine DL_c (op_ldB _ inferInstance rfl rfl (rfl : _ = some (AV.ptr _ _))) ?_
                    | refine DL_c (op_ldR _ inferInstance rfl rfl (by first | rfl | exact isl_get _ _ (by omega) | exact bsl_get _ _ (by omega) | assumption | exact mrows_get _ _ (by omega) | exact nsl_get _ _ (by omega) | exact psl_get0 _ _ (by omega) | exact psl_get1 _ _ (by omega) | exact nrows_get _ _ (by omega)) rfl) ?_
                  refine DL_c (op_as _ (rfl : _ = AV.ptr _ _)) ?_
                  refine DL_c (op_as _ (rfl : _ = AV.v (.int _ _))) ?_
                  refine DL_nil (hK56 _ ?_)
                  clear hK56; try clear K56
                  refine D_ret ?_
                  rw [show newR n E = .tup [.fp 0 (ord n (cloW n E)), .v (.int .i64 0)] from by unfold newR; rw [if_neg (by rw [hE]; simp), if_neg hcy]]
                  exact ret2 (.inr rfl) rfl (.tmp (rfl : _ = AV.ptr _ _)) (.tmp (rfl : _ = AV.v _)) (Le.out [] [(137, 0)] (.tup rfl (lv_cons (.frzP rfl rfl (by rw [ord, hcwl]; rfl)) (lv_cons .v lv_nil))) rfl rfl rfl ⟨rfl, trivial⟩ trivial)
end Go.Proofs.Ytkbkmngbenohkaa
