/- The law PosetGraph by the machine. -/
import Derived.Test.YtkbkmngbenohkaaGrA19
import Derived.Test.YtkbkmngbenohkaaGrG9
set_option linter.unusedSimpArgs false
set_option linter.unusedVariables false
namespace Go.Proofs.Ytkbkmngbenohkaa
open Go.RowKit

/-- What Kahn's law takes next is the least of those whose betters are all out. -/
theorem free_ind {n : Nat} {E : Prs} {S : List (List Int)} (hs : SE n E S) {out : List Nat} (hk : KO n S out) {a : Nat} (ha : a < n) : isfree n (cl E) out a = (!out.contains a && ind n S out a == 0) := by
  unfold isfree
  rw [Bool.eq_iff_iff, Bool.and_eq_true, Bool.and_eq_true, beq_iff_eq, ind_zero]
  refine and_congr_right fun _ => ?_
  rw [List.all_eq_true]
  constructor
  · intro h b hb hbo hm
    have h1 := h b (List.mem_range.2 hb)
    have h2 : cl E b a = true := cl_iff.2 (.one ((hs.m b hb _).1 hm))
    rw [h2] at h1
    simp at h1
    exact hbo h1
  · intro h b hb
    have hbn := List.mem_range.1 hb
    cases hc : cl E b a with
    | false => rfl
    | true =>
      have hcl := cl_iff.1 hc
      obtain ⟨p, he, hp⟩ := hcl.last
      have hpn := (Clo.lt hs.e (.one he)).1
      have hpo : p ∈ out := Classical.byContradiction fun hno => h p hpn hno ((hs.m p hpn _).2 he)
      have hbo : b ∈ out := by
        rcases hp with rfl | hp
        · exact hpo
        · obtain ⟨j, _, hj⟩ := idx_of hpo
          obtain ⟨i, _, hi⟩ := hk.ahead hs hp j hj
          exact List.mem_of_getElem? hi
      simpa using hbo
theorem kahn_lin {n : Nat} {E : Prs} {S : List (List Int)} (hs : SE n E S) (hC : ¬ ∃ a, a < n ∧ Clo E a a) : ∀ k j, j + k = n → KO n S (lin n (cl E) j) → kahn n S k (lin n (cl E) j) = lin n (cl E) n
  | 0, j, hj, _ => by rw [kahn, show j = n by omega]
  | k + 1, j, hj, hko => by
    have h1 : (lin n (cl E) j).length < n := by rw [lin_len]; omega
    obtain ⟨h2, h3, h4⟩ := next_ok (spo_cl hC) _ h1
    have hnv : nextV n S (lin n (cl E) j) = some (nextf n (cl E) (lin n (cl E) j)) := by
      unfold nextV
      refine find_range h2 ?_ fun b hb => ?_
      · rw [← free_ind hs hko h2]; exact h3
      · rw [← free_ind hs hko (by omega)]; exact h4 b hb
    rw [kahn, hnv]
    have := kahn_lin hs hC k (j + 1) (by omega) (hko.step hnv)
    exact this
theorem kahn_lin0 {n : Nat} {E : Prs} {S : List (List Int)} (hs : SE n E S) (hC : ¬ ∃ a, a < n ∧ Clo E a a) : kahn n S n [] = lin n (cl E) n := kahn_lin hs hC n 0 (by omega) (KO.nil n S)
theorem rch_mem {n : Nat} {E : Prs} (hE : inE n E = true) {a : Nat} (ha : a < n) {b : Nat} (hb : b < n) : b ∈ rchL n (nxD n E n) a ↔ b = a ∨ Clo E a b := by
  have hse := nxD_se hE
  have hSb : ∀ a, a < n → ∀ w ∈ (nxD n E n).getD a [], 0 ≤ w ∧ w < (n : Int) := fun a ha w hw => by
    have := inE_mem hE ((hse.m a ha w).1 hw)
    exact ⟨this.2.2.1, this.2.2.2⟩
  unfold rchL snL
  rw [List.mem_filter, vis_all hSb ha, List.mem_range]
  have he : ∀ {x y : Nat}, Clo (sE n (nxD n E n)) x y ↔ Clo E x y := by
    intro x y
    constructor
    · intro h
      induction h with
      | one h => exact .one ((hse.m _ (sE_mem.1 h).1 _).1 (sE_mem.1 h).2)
      | more h _ ih => exact .more ((hse.m _ (sE_mem.1 h).1 _).1 (sE_mem.1 h).2) ih
    · intro h
      induction h with
      | one h =>
        have h1 := (Clo.lt hE (.one h)).1
        exact .one (sE_mem.2 ⟨h1, (hse.m _ h1 _).2 h⟩)
      | more h _ ih =>
        have h1 := (Clo.lt hE (.one h)).1
        exact .more (sE_mem.2 ⟨h1, (hse.m _ h1 _).2 h⟩) ih
  unfold rch
  rw [he]
  exact ⟨fun h => h.2, fun h => ⟨hb, h⟩⟩
theorem graph_topo {n : Int} {m : Nat} {l : List Int} {k : Nat} {E : Prs} (g : Gen n m l k E) : Spec Try.prog 54 (inSt [.v (.int .i64 (k : Int)), .sl E.length (psl E)] []) (outSt (topoR k (nxD k E k)) []) :=
  topo2_spec k (by have := g.kle; omega) E.length E rfl (by have := g.el; omega) g.inE fun a _ => by have := nxt_len E a; have := g.el; omega
theorem graph_cyc (n : Int) (m : Nat) (l : List Int) (k : Nat) (E : Prs) (g : Gen n m l k E) (hC : Cyc k E) :
    Spec Try.prog 12 (inSt [.v (.int .i64 n), .sl m (isl l)] []) (outSt (.v (.bool true)) []) := by
  have hk8 := g.kle
  have hel := g.el
  have hO := new_spec k (by omega) E.length E rfl (by omega)
  have hOr : newR k E = .tup [.v (.pointer none), .v (.int .i64 9)] := by unfold newR; rw [if_neg (by rw [g.inE]; simp), if_pos hC]
  rw [hOr] at hO
  have hT := graph_topo g
  have hTr : topoR k (nxD k E k) = .tup [.v (.slice none 0 0), .v (.bool false)] := by
    unfold topoR
    rw [if_pos]
    exact Classical.byContradiction fun hn => topo_ok (nxD_se g.inE) hn hC
  rw [hTr] at hT
  have hA := around_spec n 8 (by omega) (by omega) g.lo g.hi
  rw [g.ar] at hA
  refine Spec.ofN Try.func12 rfl Try.ntmps12 rfl ?_
  refine D_seq fun K1 hK1 => ?_
  refine D_region ?_
  refine DL_c (op_as _ (rfl : _ = AV.v (.bool _))) ?_
  refine DL_nil (hK1 _ ?_)
  clear hK1; try clear K1
  refine D_seq fun K2 hK2 => ?_
  refine D_region ?_
  refine DL_c (op_mv _ (rfl : _ = AV.v (.int _ _))) ?_
  refine DL_c (op_callH inferInstance (by repeat' (first | exact argsLv_nil | refine argsLv_cons ?_ ?_ | exact Lv.v | exact lvI (by omega) | exact Lv.sl | exact Lv.fp | exact Lv.nil | refine Lv.agg rfl ?_ | refine Lv.fn rfl ?_ rfl ?_ | exact lv_nil | refine lv_cons ?_ ?_ | exact Lv.z0)) (hA) rfl rfl) ?_
  refine DL_c (op_as _ (rfl : _ = AV.v (.int _ _))) ?_
  refine DL_nil (hK2 _ ?_)
  clear hK2; try clear K2
  refine D_seq fun K3 hK3 => ?_
  refine D_region ?_
  refine DL_c (op_mv _ (rfl : _ = AV.v (.int _ _))) ?_
  refine DL_c (op_mv _ (rfl : _ = AV.sl _ _)) ?_
  refine DL_c (op_callH inferInstance (by repeat' (first | exact argsLv_nil | refine argsLv_cons ?_ ?_ | exact Lv.v | exact lvI (by omega) | exact Lv.sl | exact Lv.fp | exact Lv.nil | refine Lv.agg rfl ?_ | refine Lv.fn rfl ?_ rfl ?_ | exact lv_nil | refine lv_cons ?_ ?_ | exact Lv.z0)) (g.pairs) rfl rfl) ?_
  refine DL_c (op_as _ (rfl : _ = AV.sl _ _)) ?_
  refine DL_nil (hK3 _ ?_)
  clear hK3; try clear K3
  refine D_seq fun K4 hK4 => ?_
  refine D_region ?_
  refine DL_c (op_mv _ (rfl : _ = AV.v (.int _ _))) ?_
  refine DL_c (op_mv _ (rfl : _ = AV.sl _ _)) ?_
  refine DL_c (op_callH inferInstance (by repeat' (first | exact argsLv_nil | refine argsLv_cons ?_ ?_ | exact Lv.v | exact lvI (by omega) | exact Lv.sl | exact Lv.fp | exact Lv.nil | refine Lv.agg rfl ?_ | refine Lv.fn rfl ?_ rfl ?_ | exact lv_nil | refine lv_cons ?_ ?_ | exact Lv.z0)) (hO) rfl rfl) ?_
  refine DL_c (op_mv _ (rfl : _ = AV.tup _)) ?_
  first
    | refine DL_c (op_ext _ rfl (rfl : _ = some (AV.ptr _ _))) ?_
    | refine DL_c (op_ext _ rfl (rfl : _ = some (AV.fp _ _))) ?_
    | refine DL_c (op_ext _ rfl (rfl : _ = some (AV.v (.pointer _)))) ?_
  refine DL_c (op_ext _ rfl (rfl : _ = some (AV.v (.int _ _)))) ?_
  first
    | refine DL_c (op_as _ (rfl : _ = AV.ptr _ _)) ?_
    | refine DL_c (op_as _ (rfl : _ = AV.fp _ _)) ?_
    | refine DL_c (op_as _ (rfl : _ = AV.v (.pointer _))) ?_
  refine DL_c (op_as _ (rfl : _ = AV.v (.int _ _))) ?_
  refine DL_nil (hK4 _ ?_)
  clear hK4; try clear K4
  refine D_seq fun K5 hK5 => ?_
  refine D_le (σ' := mkStI 78 [(5, _), (6, _), (7, _), (8, _)] [] [] []) (by
    refine Le.mkJ [] [] rfl ?_ ?_ trivial trivial ?_
    · exact ⟨(iV rfl), (iS rfl), (by first | exact iP rfl | exact iF rfl | exact iV rfl | exact iD rfl), (iV rfl), trivial⟩
    · exact trivial
    · kernel_rfl) ?_
  refine D_region ?_
  refine DL_c (op_mv _ (rfl : _ = AV.v (.int _ _))) ?_
  refine DL_c (op_mv _ (rfl : _ = AV.sl _ _)) ?_
  refine DL_c (op_callH inferInstance (by repeat' (first | exact argsLv_nil | refine argsLv_cons ?_ ?_ | exact Lv.v | exact lvI (by omega) | exact Lv.sl | exact Lv.fp | exact Lv.nil | refine Lv.agg rfl ?_ | refine Lv.fn rfl ?_ rfl ?_ | exact lv_nil | refine lv_cons ?_ ?_ | exact Lv.z0)) (hT) rfl rfl) ?_
  refine DL_c (op_mv _ (rfl : _ = AV.tup _)) ?_
  first
    | refine DL_c (op_ext _ rfl (rfl : _ = some (AV.sl _ _))) ?_
    | refine DL_c (op_ext _ rfl (rfl : _ = some (AV.ref _ _ _))) ?_
    | refine DL_c (op_ext _ rfl (rfl : _ = some (AV.v (.slice _ _ _)))) ?_
    | refine DL_c (op_ext _ rfl (rfl : _ = some (AV.z))) ?_
  refine DL_c (op_ext _ rfl (rfl : _ = some (AV.v (.bool _)))) ?_
  first
    | refine DL_c (op_as _ (rfl : _ = AV.sl _ _)) ?_
    | refine DL_c (op_as _ (rfl : _ = AV.ref _ _ _)) ?_
    | refine DL_c (op_as _ (rfl : _ = AV.v (.slice _ _ _))) ?_
    | refine DL_c (op_as _ (rfl : _ = AV.z)) ?_
  refine DL_c (op_as _ (rfl : _ = AV.v (.bool _))) ?_
  refine DL_nil (hK5 _ ?_)
  clear hK5; try clear K5
  refine D_seq fun K6 hK6 => ?_
  refine D_seq fun K7 hK7 => ?_
  refine D_region ?_
  refine DL_c (op_mv _ (rfl : _ = AV.v (.bool _))) ?_
  refine DL_c (op_mv _ (rfl : _ = AV.v (.int _ _))) ?_
  refine DL_c (op_eql (r := false) _ _ rfl rfl rfl) ?_
  refine DL_c (op_neB _ _ rfl rfl Try.underlying4 rfl) ?_
  refine DL_c (op_mv _ (rfl : _ = AV.v (.bool _))) ?_
  refine DL_caseC (fun hg35 => ?_) (fun hg35 => ?_)
  · skip
    refine DL_cn rfl rfl (by decide) ?_
    refine DL_cn rfl rfl (by decide) ?_
    refine DL_cn rfl rfl (by decide) ?_
    refine DL_cn rfl rfl (by decide) ?_
    refine DL_c (op_pick _ _ _ rfl (rfl : _ = AV.v (.bool _))) ?_
    refine DL_nil (hK7 _ ?_)
    clear hK7; try clear K7
    refine D_cT rfl rfl ?_
    refine D_seq fun K8 hK8 => ?_
    refine D_le (σ' := mkStI 78 [] [] [] []) (by
      refine Le.mkJ [] [] rfl ?_ ?_ trivial trivial ?_
      · exact trivial
      · exact trivial
      · kernel_rfl) ?_
    refine D_region ?_
    refine DL_c (op_as _ (rfl : _ = AV.v (.bool _))) ?_
    refine DL_nil (hK8 _ ?_)
    clear hK8; try clear K8
    refine D_ret ?_
    exact absurd hg35 (by simp)
  · skip
    first
      | refine DL_cy rfl rfl (op_mv _ (rfl : _ = AV.ptr _ _)) ?_
      | refine DL_cy rfl rfl (op_mv _ (rfl : _ = AV.fp _ _)) ?_
      | refine DL_cy rfl rfl (op_mv _ (rfl : _ = AV.v (.pointer _))) ?_
    first
      | refine DL_cy rfl rfl (op_neP _ _ (by kernel_rfl) rfl rfl) ?_
      | refine DL_cy rfl rfl (op_neN _ _ (by kernel_rfl) (.inr ⟨_, _, rfl⟩) rfl) ?_
      | refine DL_cy rfl rfl (op_neN _ _ (by kernel_rfl) (.inl ⟨_, _, _, rfl, rfl⟩) rfl) ?_
    refine DL_cy rfl rfl (op_mv _ (rfl : _ = AV.v (.bool _))) ?_
    refine DL_cy rfl rfl (op_neB _ _ rfl rfl Try.underlying4 rfl) ?_
    refine DL_c (op_pick _ _ _ rfl (rfl : _ = AV.v (.bool _))) ?_
    refine DL_nil (hK7 _ ?_)
    clear hK7; try clear K7
    refine D_splitC rfl (fun hc40 => ?_) (fun hc40 => ?_)
    · skip
      exact absurd  hc40 (by simp)
    · skip
      refine D_skip (hK6 _ ?_)
      clear hK6; try clear K6
      refine D_seq fun K9 hK9 => ?_
      refine D_seq fun K10 hK10 => ?_
      refine D_le (σ' := mkStI 78 [(5, _), (6, _), (7, _), (9, _)] [] [] []) (by
        refine Le.mkJ [] [] rfl ?_ ?_ trivial trivial ?_
        · exact ⟨(iV rfl), (iS rfl), (by first | exact iP rfl | exact iF rfl | exact iV rfl | exact iD rfl), (by first | exact iS rfl | exact iR rfl | exact iV rfl | exact iZ rfl | exact iD rfl), trivial⟩
        · exact trivial
        · kernel_rfl) ?_
      refine D_region ?_
      first
        | refine DL_c (op_mv _ (rfl : _ = AV.ptr _ _)) ?_
        | refine DL_c (op_mv _ (rfl : _ = AV.fp _ _)) ?_
        | refine DL_c (op_mv _ (rfl : _ = AV.v (.pointer _))) ?_
      first
        | refine DL_c (op_eqP _ _ (by kernel_rfl) rfl rfl) ?_
        | refine DL_c (op_eqN _ _ (by kernel_rfl) (.inr ⟨_, _, rfl⟩) rfl) ?_
        | refine DL_c (op_eqN _ _ (by kernel_rfl) (.inl ⟨_, _, _, rfl, rfl⟩) rfl) ?_
      refine DL_nil (hK10 _ ?_)
      clear hK10; try clear K10
      refine D_splitC rfl (fun hc42 => ?_) (fun hc42 => ?_)
      · skip
        refine D_seq fun K11 hK11 => ?_
        refine D_region ?_
        refine DL_c (op_callH inferInstance (by repeat' (first | exact argsLv_nil | refine argsLv_cons ?_ ?_ | exact Lv.v | exact lvI (by omega) | exact Lv.sl | exact Lv.fp | exact Lv.nil | refine Lv.agg rfl ?_ | refine Lv.fn rfl ?_ rfl ?_ | exact lv_nil | refine lv_cons ?_ ?_ | exact Lv.z0)) (lives_spec) rfl rfl) ?_
        refine DL_c (op_as _ (rfl : _ = AV.v (.bool _))) ?_
        refine DL_nil (hK11 _ ?_)
        clear hK11; try clear K11
        refine D_ret ?_
        refine ret1 (.inr rfl) rfl (.tmp (rfl : _ = AV.v (.bool _))) (Le.out [] [] (lvB ?_) rfl rfl rfl trivial trivial)
        rfl
      · skip
        exact absurd  hc42 (by simp)
theorem graph_ok (n : Int) (m : Nat) (l : List Int) (k : Nat) (E : Prs) (g : Gen n m l k E) (hC : ¬ Cyc k E) :
    Spec Try.prog 12 (inSt [.v (.int .i64 n), .sl m (isl l)] []) (outSt (.v (.bool true)) []) := by
  have hk8 := g.kle
  have hel := g.el
  have hO := new_spec k (by omega) E.length E rfl (by omega)
  have hOr : newR k E = .tup [.fp 0 (ord k (cloW k E)), .v (.int .i64 0)] := by unfold newR; rw [if_neg (by rw [g.inE]; simp), if_neg hC]
  rw [hOr] at hO
  have hT := graph_topo g
  have hTr : topoR k (nxD k E k) = .tup [.sl k (isl (nl (lin k (cl E) k))), .v (.bool true)] := by
    unfold topoR
    rw [kahn_lin0 (nxD_se g.inE) hC, lin_len, if_neg (Nat.lt_irrefl k)]; rfl
  rw [hTr] at hT
  have hA := around_spec n 8 (by omega) (by omega) g.lo g.hi
  rw [g.ar] at hA
  have hR := fun (a : Nat) (ha : a < k) => reach2_spec k (by omega) E.length E rfl (by omega) g.inE (fun a _ => by have := nxt_len E a; omega) a ha
  have hRm := fun (a b : Nat) (ha : a < k) (hb : b < k) => rch_mem g.inE ha hb
  refine Spec.ofN Try.func12 rfl Try.ntmps12 rfl ?_
  refine D_seq fun K1 hK1 => ?_
  refine D_region ?_
  refine DL_c (op_as _ (rfl : _ = AV.v (.bool _))) ?_
  refine DL_nil (hK1 _ ?_)
  clear hK1; try clear K1
  refine D_seq fun K2 hK2 => ?_
  refine D_region ?_
  refine DL_c (op_mv _ (rfl : _ = AV.v (.int _ _))) ?_
  refine DL_c (op_callH inferInstance (by repeat' (first | exact argsLv_nil | refine argsLv_cons ?_ ?_ | exact Lv.v | exact lvI (by omega) | exact Lv.sl | exact Lv.fp | exact Lv.nil | refine Lv.agg rfl ?_ | refine Lv.fn rfl ?_ rfl ?_ | exact lv_nil | refine lv_cons ?_ ?_ | exact Lv.z0)) (hA) rfl rfl) ?_
  refine DL_c (op_as _ (rfl : _ = AV.v (.int _ _))) ?_
  refine DL_nil (hK2 _ ?_)
  clear hK2; try clear K2
  refine D_seq fun K3 hK3 => ?_
  refine D_region ?_
  refine DL_c (op_mv _ (rfl : _ = AV.v (.int _ _))) ?_
  refine DL_c (op_mv _ (rfl : _ = AV.sl _ _)) ?_
  refine DL_c (op_callH inferInstance (by repeat' (first | exact argsLv_nil | refine argsLv_cons ?_ ?_ | exact Lv.v | exact lvI (by omega) | exact Lv.sl | exact Lv.fp | exact Lv.nil | refine Lv.agg rfl ?_ | refine Lv.fn rfl ?_ rfl ?_ | exact lv_nil | refine lv_cons ?_ ?_ | exact Lv.z0)) (g.pairs) rfl rfl) ?_
  refine DL_c (op_as _ (rfl : _ = AV.sl _ _)) ?_
  refine DL_nil (hK3 _ ?_)
  clear hK3; try clear K3
  refine D_seq fun K4 hK4 => ?_
  refine D_region ?_
  refine DL_c (op_mv _ (rfl : _ = AV.v (.int _ _))) ?_
  refine DL_c (op_mv _ (rfl : _ = AV.sl _ _)) ?_
  refine DL_c (op_callH inferInstance (by repeat' (first | exact argsLv_nil | refine argsLv_cons ?_ ?_ | exact Lv.v | exact lvI (by omega) | exact Lv.sl | exact Lv.fp | exact Lv.nil | refine Lv.agg rfl ?_ | refine Lv.fn rfl ?_ rfl ?_ | exact lv_nil | refine lv_cons ?_ ?_ | exact Lv.z0)) (hO) rfl rfl) ?_
  refine DL_c (op_mv _ (rfl : _ = AV.tup _)) ?_
  first
    | refine DL_c (op_ext _ rfl (rfl : _ = some (AV.ptr _ _))) ?_
    | refine DL_c (op_ext _ rfl (rfl : _ = some (AV.fp _ _))) ?_
    | refine DL_c (op_ext _ rfl (rfl : _ = some (AV.v (.pointer _)))) ?_
  refine DL_c (op_ext _ rfl (rfl : _ = some (AV.v (.int _ _)))) ?_
  refine DL_c (op_as _ (rfl : _ = AV.fp _ _)) ?_
  refine DL_c (op_as _ (rfl : _ = AV.v (.int _ _))) ?_
  refine DL_nil (hK4 _ ?_)
  clear hK4; try clear K4
  refine D_seq fun K5 hK5 => ?_
  refine D_le (σ' := mkStI 78 [(5, _), (6, _), (7, _), (8, _)] [] [] []) (by
    refine Le.mkJ [] [] rfl ?_ ?_ trivial trivial ?_
    · exact ⟨(iV rfl), (iS rfl), (iF rfl), (iV rfl), trivial⟩
    · exact trivial
    · kernel_rfl) ?_
  refine D_region ?_
  refine DL_c (op_mv _ (rfl : _ = AV.v (.int _ _))) ?_
  refine DL_c (op_mv _ (rfl : _ = AV.sl _ _)) ?_
  refine DL_c (op_callH inferInstance (by repeat' (first | exact argsLv_nil | refine argsLv_cons ?_ ?_ | exact Lv.v | exact lvI (by omega) | exact Lv.sl | exact Lv.fp | exact Lv.nil | refine Lv.agg rfl ?_ | refine Lv.fn rfl ?_ rfl ?_ | exact lv_nil | refine lv_cons ?_ ?_ | exact Lv.z0)) (hT) rfl rfl) ?_
  refine DL_c (op_mv _ (rfl : _ = AV.tup _)) ?_
  first
    | refine DL_c (op_ext _ rfl (rfl : _ = some (AV.sl _ _))) ?_
    | refine DL_c (op_ext _ rfl (rfl : _ = some (AV.ref _ _ _))) ?_
    | refine DL_c (op_ext _ rfl (rfl : _ = some (AV.v (.slice _ _ _)))) ?_
    | refine DL_c (op_ext _ rfl (rfl : _ = some (AV.z))) ?_
  refine DL_c (op_ext _ rfl (rfl : _ = some (AV.v (.bool _)))) ?_
  refine DL_c (op_as _ (rfl : _ = AV.sl _ _)) ?_
  refine DL_c (op_as _ (rfl : _ = AV.v (.bool _))) ?_
  refine DL_nil (hK5 _ ?_)
  clear hK5; try clear K5
  refine D_seq fun K6 hK6 => ?_
  refine D_seq fun K7 hK7 => ?_
  refine D_region ?_
  refine DL_c (op_mv _ (rfl : _ = AV.v (.bool _))) ?_
  refine DL_c (op_mv _ (rfl : _ = AV.v (.int _ _))) ?_
  refine DL_c (op_eql (r := true) _ _ rfl rfl rfl) ?_
  refine DL_c (op_neB _ _ rfl rfl Try.underlying4 rfl) ?_
  refine DL_c (op_mv _ (rfl : _ = AV.v (.bool _))) ?_
  refine DL_caseC (fun hg35 => ?_) (fun hg35 => ?_)
  · skip
    refine DL_cn rfl rfl (by decide) ?_
    refine DL_cn rfl rfl (by decide) ?_
    refine DL_cn rfl rfl (by decide) ?_
    refine DL_cn rfl rfl (by decide) ?_
    refine DL_c (op_pick _ _ _ rfl (rfl : _ = AV.v (.bool _))) ?_
    refine DL_nil (hK7 _ ?_)
    clear hK7; try clear K7
    refine D_cT rfl rfl ?_
    refine D_seq fun K8 hK8 => ?_
    refine D_le (σ' := mkStI 78 [] [] [] []) (by
      refine Le.mkJ [] [] rfl ?_ ?_ trivial trivial ?_
      · exact trivial
      · exact trivial
      · kernel_rfl) ?_
    refine D_region ?_
    refine DL_c (op_as _ (rfl : _ = AV.v (.bool _))) ?_
    refine DL_nil (hK8 _ ?_)
    clear hK8; try clear K8
    refine D_ret ?_
    exact absurd hg35 (by simp)
  · skip
    refine DL_cy rfl rfl (op_mv _ (rfl : _ = AV.fp _ _)) ?_
    refine DL_cy rfl rfl (op_neN _ _ (by kernel_rfl) (.inr ⟨_, _, rfl⟩) rfl) ?_
    refine DL_cy rfl rfl (op_mv _ (rfl : _ = AV.v (.bool _))) ?_
    refine DL_cy rfl rfl (op_neB _ _ rfl rfl Try.underlying4 rfl) ?_
    refine DL_c (op_pick _ _ _ rfl (rfl : _ = AV.v (.bool _))) ?_
    refine DL_nil (hK7 _ ?_)
    clear hK7; try clear K7
    refine D_splitC rfl (fun hc40 => ?_) (fun hc40 => ?_)
    · skip
      exact absurd  hc40 (by simp)
    · skip
      refine D_skip (hK6 _ ?_)
      clear hK6; try clear K6
      refine D_seq fun K9 hK9 => ?_
      refine D_seq fun K10 hK10 => ?_
      refine D_le (σ' := mkStI 78 [(5, _), (6, _), (7, _), (9, _)] [] [] []) (by
        refine Le.mkJ [] [] rfl ?_ ?_ trivial trivial ?_
        · exact ⟨(iV rfl), (iS rfl), (iF rfl), (iS rfl), trivial⟩
        · exact trivial
        · kernel_rfl) ?_
      refine D_region ?_
      refine DL_c (op_mv _ (rfl : _ = AV.fp _ _)) ?_
      refine DL_c (op_eqN _ _ (by kernel_rfl) (.inr ⟨_, _, rfl⟩) rfl) ?_
      refine DL_nil (hK10 _ ?_)
      clear hK10; try clear K10
      refine D_cF rfl rfl ?_
      refine D_skip (hK9 _ ?_)
      clear hK9; try clear K9
      refine D_seq fun K11 hK11 => ?_
      refine D_seq fun K12 hK12 => ?_
      refine D_region ?_
      refine DL_c (op_mv _ (rfl : _ = AV.sl _ _)) ?_
      refine DL_c (op_mv _ (rfl : _ = AV.fp _ _)) ?_
      refine DL_c (op_callH inferInstance (by repeat' (first | exact argsLv_nil | refine argsLv_cons ?_ ?_ | exact Lv.v | exact lvI (by omega) | exact Lv.sl | exact Lv.fp | exact Lv.nil | refine Lv.agg rfl ?_ | refine Lv.fn rfl ?_ rfl ?_ | exact lv_nil | refine lv_cons ?_ ?_ | exact Lv.z0)) (g.linear hC) rfl rfl) ?_
      refine DL_c (op_callH inferInstance (by repeat' (first | exact argsLv_nil | refine argsLv_cons ?_ ?_ | exact Lv.v | exact lvI (by omega) | exact Lv.sl | exact Lv.fp | exact Lv.nil | refine Lv.agg rfl ?_ | refine Lv.fn rfl ?_ rfl ?_ | exact lv_nil | refine lv_cons ?_ ?_ | exact Lv.z0)) (same_true k (nl (lin k (cl E) k)) (by simp) (by omega)) rfl rfl) ?_
      refine DL_c (op_not _ rfl rfl) ?_
      refine DL_nil (hK12 _ ?_)
      clear hK12; try clear K12
      refine D_splitC rfl (fun hc48 => ?_) (fun hc48 => ?_)
      · skip
        exact absurd  hc48 (by simp)
      · skip
        refine D_skip (hK11 _ ?_)
        clear hK11; try clear K11
        refine D_seq fun K13 hK13 => ?_
        refine D_seq fun K14 hK14 => ?_
        refine D_region ?_
        refine DL_c (op_as _ (rfl : _ = AV.v (.int _ _))) ?_
        refine DL_nil (hK14 _ ?_)
        clear hK14; try clear K14
        refine D_block ?_
        refine D_loopL (α := Nat) (fun a => a ≤ k) 78 [(5, _), (6, _), (7, _)] [] (fun a => [(11, .v (.int .i64 (a : Int)))]) (fun a => []) [] [] (fun a => k - a) 0 ?_ (by
          refine Le.mkJ [] [] rfl ?_ ?_ trivial trivial ?_
          · exact ⟨(iV rfl), (iS rfl), (iF rfl), (lvI (by first | rfl | omega | (simp; done) | (simp; omega) | assumption)), trivial⟩
          · exact trivial
          · kernel_rfl) ?_
        · first | omega | trivial | exact ⟨by omega, by omega⟩
        intro a ha
        refine D_seq fun K15 hK15 => ?_
        refine D_seq fun K16 hK16 => ?_
        refine D_region ?_
        refine DL_c (op_mv _ (rfl : _ = AV.v (.int _ _))) ?_
        refine DL_c (op_mv _ (rfl : _ = AV.v (.int _ _))) ?_
        first
          | refine DL_c (op_lss _ _ rfl rfl (by assumption)) ?_
          | refine DL_c (op_lss _ _ rfl rfl rfl) ?_
        refine DL_nil (hK16 _ ?_)
        clear hK16; try clear K16
        refine D_splitC rfl (fun hc51 => ?_) (fun hc51 => ?_)
        · skip
          have hrl : (rchL k (nxD k E k) a).length ≤ k := snL_len _ _
          refine D_skip (hK15 _ ?_)
          clear hK15; try clear K15
          refine D_seq fun K17 hK17 => ?_
          refine D_block ?_
          refine D_seq fun K18 hK18 => ?_
          refine D_region ?_
          refine DL_c (op_mv _ (rfl : _ = AV.v (.int _ _))) ?_
          refine DL_c (op_mv _ (rfl : _ = AV.sl _ _)) ?_
          refine DL_c (op_mv _ (rfl : _ = AV.v (.int _ _))) ?_
          refine DL_c (op_bsF _ _ inferInstance rfl (by rfl) (by simp <;> rfl) (by decide) rfl) ?_
          refine DL_c (op_callH inferInstance (by repeat' (first | exact argsLv_nil | refine argsLv_cons ?_ ?_ | exact Lv.v | exact lvI (by omega) | exact Lv.sl | exact Lv.fp | exact Lv.nil | refine Lv.agg rfl ?_ | refine Lv.fn rfl ?_ rfl ?_ | exact lv_nil | refine lv_cons ?_ ?_ | exact Lv.z0)) (hR a (by omega)) rfl rfl) ?_
          refine DL_c (op_as _ (rfl : _ = AV.sl _ _)) ?_
          refine DL_nil (hK18 _ ?_)
          clear hK18; try clear K18
          refine D_seq fun K19 hK19 => ?_
          refine D_region ?_
          refine DL_c (op_as _ (rfl : _ = AV.v (.int _ _))) ?_
          refine DL_nil (hK19 _ ?_)
          clear hK19; try clear K19
          refine D_block ?_
          refine D_loopL (α := Nat) (fun b => b ≤ k) 78 [(5, _), (6, _), (7, _), (11, _), (12, _)] [] (fun b => [(13, .v (.int .i64 (b : Int)))]) (fun b => []) [] [] (fun b => k - b) 0 ?_ (by
            refine Le.mkJ [] [] rfl ?_ ?_ trivial trivial ?_
            · exact ⟨(iV rfl), (iS rfl), (iF rfl), (iV rfl), (iS rfl), (lvI (by first | rfl | omega | (simp; done) | (simp; omega) | assumption)), trivial⟩
            · exact trivial
            · kernel_rfl) ?_
          · first | omega | trivial | exact ⟨by omega, by omega⟩
          intro b hb
          refine D_seq fun K20 hK20 => ?_
          refine D_seq fun K21 hK21 => ?_
          refine D_region ?_
          refine DL_c (op_mv _ (rfl : _ = AV.v (.int _ _))) ?_
          refine DL_c (op_mv _ (rfl : _ = AV.v (.int _ _))) ?_
          first
            | refine DL_c (op_lss _ _ rfl rfl (by assumption)) ?_
            | refine DL_c (op_lss _ _ rfl rfl rfl) ?_
          refine DL_nil (hK21 _ ?_)
          clear hK21; try clear K21
          refine D_splitC rfl (fun hc61 => ?_) (fun hc61 => ?_)
          · skip
            have hmb := hRm a b (by omega) (by omega)
            refine D_skip (hK20 _ ?_)
            clear hK20; try clear K20
            refine D_seq fun K22 hK22 => ?_
            refine D_block ?_
            refine D_seq fun K23 hK23 => ?_
            refine D_region ?_
            refine DL_c (op_mv _ (rfl : _ = AV.v (.int _ _))) ?_
            refine DL_c (op_mv _ (rfl : _ = AV.v (.int _ _))) ?_
            first
              | refine DL_c (op_neq _ _ rfl rfl (by assumption)) ?_
              | refine DL_c (op_neq _ _ rfl rfl rfl) ?_
            refine DL_c (op_mv _ (rfl : _ = AV.v (.bool _))) ?_
            refine DL_caseC (fun hg67 => ?_) (fun hg67 => ?_)
            · skip
              refine DL_cy rfl rfl (op_mv _ (rfl : _ = AV.sl _ _)) ?_
              refine DL_cy rfl rfl (op_mv _ (rfl : _ = AV.v (.int _ _))) ?_
              refine DL_cy rfl rfl (op_callH inferInstance (by repeat' (first | exact argsLv_nil | refine argsLv_cons ?_ ?_ | exact Lv.v | exact lvI (by omega) | exact Lv.sl | exact Lv.fp | exact Lv.nil | refine Lv.agg rfl ?_ | refine Lv.fn rfl ?_ rfl ?_ | exact lv_nil | refine lv_cons ?_ ?_ | exact Lv.z0)) (hasN_spec _ (rchL k (nxD k E k) a) b rfl (by omega)) rfl rfl) ?_
              refine DL_c (op_pick _ _ _ rfl (rfl : _ = AV.v (.bool _))) ?_
              refine DL_c (op_mv _ (rfl : _ = AV.fp _ _)) ?_
              refine DL_c (op_mv _ (rfl : _ = AV.v (.int _ _))) ?_
              refine DL_c (op_mv _ (rfl : _ = AV.v (.int _ _))) ?_
              refine DL_c (op_callH inferInstance (by repeat' (first | exact argsLv_nil | refine argsLv_cons ?_ ?_ | exact Lv.v | exact lvI (by omega) | exact Lv.sl | exact Lv.fp | exact Lv.nil | refine Lv.agg rfl ?_ | refine Lv.fn rfl ?_ rfl ?_ | exact lv_nil | refine lv_cons ?_ ?_ | exact Lv.z0)) (g.less a b (by omega) (by omega)) rfl rfl) ?_
              refine DL_c (op_neB _ _ rfl rfl Try.underlying4 rfl) ?_
              refine DL_nil (hK23 _ ?_)
              clear hK23; try clear K23
              refine D_splitC rfl (fun hc76 => ?_) (fun hc76 => ?_)
              · skip
                exact absurd  hc76 (by
                  first
                  | (have hab : a = b := by omega
                     subst hab
                     have : cl E a a = false := Bool.eq_false_iff.2 fun h => hC ⟨a, by omega, cl_iff.1 h⟩
                     rw [this]; simp; done)
                  | (have e : (rchL k (nxD k E k) a).contains b = cl E a b := by
                       rw [Bool.eq_iff_iff, List.contains_iff_mem, hmb, cl_iff]
                       exact ⟨fun h => h.resolve_left (by omega), .inr⟩
                     rw [e]; simp))
              · skip
                refine D_skip (hK22 _ ?_)
                clear hK22; try clear K22
                refine D_le (σ' := mkStI 78 [(5, _), (6, _), (7, _), (11, _), (12, _), (13, _)] [] [] []) (by
                  refine Le.mkJ [] [] rfl ?_ ?_ trivial trivial ?_
                  · exact ⟨(iV rfl), (iS rfl), (iF rfl), (iV rfl), (iS rfl), (iV rfl), trivial⟩
                  · exact trivial
                  · kernel_rfl) ?_
                refine D_region ?_
                refine DL_c (op_mv _ (rfl : _ = AV.v (.int _ _))) ?_
                first
                  | refine DL_c (op_add _ _ rfl rfl (i64w (by omega))) ?_
                  | refine DL_c (op_add _ _ rfl rfl rfl) ?_
                refine DL_c (op_as _ (rfl : _ = AV.v (.int _ _))) ?_
                refine DL_nil ?_
                refine ⟨b + 1, ?_, ?_, ?_⟩
                · first | omega | trivial | exact ⟨by omega, by omega⟩
                · skip
                  refine Le.mkJ [] [] rfl ?_ ?_ trivial trivial ?_
                  · exact ⟨(iV rfl), (iS rfl), (iF rfl), (iV rfl), (iS rfl), (lvI (by first | rfl | omega | (simp; done) | (simp; omega) | assumption)), trivial⟩
                  · exact trivial
                  · kernel_rfl
                · omega
            · skip
              refine DL_cn rfl rfl (by decide) ?_
              refine DL_cn rfl rfl (by decide) ?_
              refine DL_cn rfl rfl (by decide) ?_
              refine DL_c (op_pick _ _ _ rfl (rfl : _ = AV.v (.bool _))) ?_
              refine DL_c (op_mv _ (rfl : _ = AV.fp _ _)) ?_
              refine DL_c (op_mv _ (rfl : _ = AV.v (.int _ _))) ?_
              refine DL_c (op_mv _ (rfl : _ = AV.v (.int _ _))) ?_
              refine DL_c (op_callH inferInstance (by repeat' (first | exact argsLv_nil | refine argsLv_cons ?_ ?_ | exact Lv.v | exact lvI (by omega) | exact Lv.sl | exact Lv.fp | exact Lv.nil | refine Lv.agg rfl ?_ | refine Lv.fn rfl ?_ rfl ?_ | exact lv_nil | refine lv_cons ?_ ?_ | exact Lv.z0)) (g.less a b (by omega) (by omega)) rfl rfl) ?_
              refine DL_c (op_neB _ _ rfl rfl Try.underlying4 rfl) ?_
              refine DL_nil (hK23 _ ?_)
              clear hK23; try clear K23
              refine D_splitC rfl (fun hc76 => ?_) (fun hc76 => ?_)
              · skip
                exact absurd  hc76 (by
                  first
                  | (have hab : a = b := by omega
                     subst hab
                     have : cl E a a = false := Bool.eq_false_iff.2 fun h => hC ⟨a, by omega, cl_iff.1 h⟩
                     rw [this]; simp; done)
                  | (have e : (rchL k (nxD k E k) a).contains b = cl E a b := by
                       rw [Bool.eq_iff_iff, List.contains_iff_mem, hmb, cl_iff]
                       exact ⟨fun h => h.resolve_left (by omega), .inr⟩
                     rw [e]; simp))
              · skip
                refine D_skip (hK22 _ ?_)
                clear hK22; try clear K22
                refine D_le (σ' := mkStI 78 [(5, _), (6, _), (7, _), (11, _), (12, _), (13, _)] [] [] []) (by
                  refine Le.mkJ [] [] rfl ?_ ?_ trivial trivial ?_
                  · exact ⟨(iV rfl), (iS rfl), (iF rfl), (iV rfl), (iS rfl), (iV rfl), trivial⟩
                  · exact trivial
                  · kernel_rfl) ?_
                refine D_region ?_
                refine DL_c (op_mv _ (rfl : _ = AV.v (.int _ _))) ?_
                first
                  | refine DL_c (op_add _ _ rfl rfl (i64w (by omega))) ?_
                  | refine DL_c (op_add _ _ rfl rfl rfl) ?_
                refine DL_c (op_as _ (rfl : _ = AV.v (.int _ _))) ?_
                refine DL_nil ?_
                refine ⟨b + 1, ?_, ?_, ?_⟩
                · first | omega | trivial | exact ⟨by omega, by omega⟩
                · skip
                  refine Le.mkJ [] [] rfl ?_ ?_ trivial trivial ?_
                  · exact ⟨(iV rfl), (iS rfl), (iF rfl), (iV rfl), (iS rfl), (lvI (by first | rfl | omega | (simp; done) | (simp; omega) | assumption)), trivial⟩
                  · exact trivial
                  · kernel_rfl
                · omega
          · skip
            refine D_exit ?_
            refine id (hK17 _ ?_)
            clear hK17; try clear K17
            refine D_region ?_
            refine DL_c (op_mv _ (rfl : _ = AV.v (.int _ _))) ?_
            first
              | refine DL_c (op_add _ _ rfl rfl (i64w (by omega))) ?_
              | refine DL_c (op_add _ _ rfl rfl rfl) ?_
            refine DL_c (op_as _ (rfl : _ = AV.v (.int _ _))) ?_
            refine DL_nil ?_
            refine ⟨a + 1, ?_, ?_, ?_⟩
            · first | omega | trivial | exact ⟨by omega, by omega⟩
            · skip
              refine Le.mkJ [] [] rfl ?_ ?_ trivial trivial ?_
              · exact ⟨(iV rfl), (iS rfl), (iF rfl), (lvI (by first | rfl | omega | (simp; done) | (simp; omega) | assumption)), trivial⟩
              · exact trivial
              · kernel_rfl
            · omega
        · skip
          refine D_exit ?_
          refine id (hK13 _ ?_)
          clear hK13; try clear K13
          refine D_seq fun K24 hK24 => ?_
          refine D_region ?_
          refine DL_c (op_callH inferInstance (by repeat' (first | exact argsLv_nil | refine argsLv_cons ?_ ?_ | exact Lv.v | exact lvI (by omega) | exact Lv.sl | exact Lv.fp | exact Lv.nil | refine Lv.agg rfl ?_ | refine Lv.fn rfl ?_ rfl ?_ | exact lv_nil | refine lv_cons ?_ ?_ | exact Lv.z0)) (lives_spec) rfl rfl) ?_
          refine DL_c (op_as _ (rfl : _ = AV.v (.bool _))) ?_
          refine DL_nil (hK24 _ ?_)
          clear hK24; try clear K24
          refine D_ret ?_
          refine ret1 (.inr rfl) rfl (.tmp (rfl : _ = AV.v (.bool _))) (Le.out [] [] (lvB ?_) rfl rfl rfl trivial trivial)
          rfl
theorem graph_law (n : Int) (hn : -9223372036854775808 ≤ n ∧ n ≤ 9223372036854775807) (m : Nat) (l : List Int) (hm : l.length = m) (h1 : m ≤ 4611686018427387904) (hr : Rng l) :
    Spec Try.prog 12 (inSt [.v (.int .i64 n), .sl m (isl l)] []) (outSt (.v (.bool true)) []) := by
  obtain ⟨k, E, g⟩ := Gen.of n hn m l hm h1 hr
  by_cases hC : Cyc k E
  · exact graph_cyc n m l k E g hC
  · exact graph_ok n m l k E g hC
end Go.Proofs.Ytkbkmngbenohkaa
