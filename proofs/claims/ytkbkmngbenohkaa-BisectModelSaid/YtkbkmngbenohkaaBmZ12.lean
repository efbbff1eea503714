/- Part 12 of the texts that the walk leans on: the machine, the walks, the plain laws. -/
import Derived.Test.YtkbkmngbenohkaaBmZ11
set_option linter.unusedSimpArgs false
set_option linter.unusedVariables false
namespace Go.Proofs.Ytkbkmngbenohkaa
open Go.RowKit

def smap (out : List Nat) : List (Int × Value) := out.map fun (v : Nat) => ((v : Int), .bool true)
@[simp] theorem smap_len (out : List Nat) : (smap out).length = out.length := by simp [smap]
theorem smap_none {out : List Nat} {v : Nat} (h : v ∉ out) : mget (smap out) (v : Int) = none := by
  refine mget_none fun p hp e => h ?_
  simp only [smap, List.mem_map] at hp
  obtain ⟨u, hu, rfl⟩ := hp
  have : u = v := by simp only at e; omega
  exact this ▸ hu
theorem smap_some {out : List Nat} {v : Nat} (h : v ∈ out) : mget (smap out) (v : Int) = some (.bool true) := by
  refine mget_some ⟨_, List.mem_map_of_mem h, rfl⟩ fun p hp e => ?_
  simp only [smap, List.mem_map] at hp
  obtain ⟨u, hu, rfl⟩ := hp
  rfl
theorem smap_look (out : List Nat) (v : Nat) : (mget (smap out) (v : Int)).getD (.bool false) = .bool (decide (v ∈ out)) := by
  by_cases h : v ∈ out
  · rw [smap_some h, decide_eq_true h]; rfl
  · rw [smap_none h, decide_eq_false h]; rfl
theorem smap_app (out : List Nat) (v : Nat) : smap out ++ [((v : Int), .bool true)] = smap (out ++ [v]) := by simp [smap]
abbrev VIL (out : List Nat) : List (Oid × Cells) :=
  [((5, 9), .box 133 [.ptr (0, 9) 0]), ((6, 9), .box 158 [.mp (7, 9)]), ((7, 9), .mp (ment (smap out)) (smap out).length), ((8, 9), .box 29 [.ref (9, 9) 0 out.length]), ((9, 9), .row 3 1 (nsl out)),
   ((10, 9), .box 100 [.fn (.func 134) [] [.ptr (5, 9) 0, .ptr (6, 9) 0, .ptr (8, 9) 0, .ptr (10, 9) 0]])]
abbrev VOL (out : List Nat) : List (Oid × Cells) :=
  [((5, 9), .box 133 [.ptr (0, 9) 0]), ((6, 9), .box 158 [.mp (7, 9)]), ((7, 9), .mp (ment (smap out)) (smap out).length), ((8, 9), .box 29 [.ref (9, 8) 0 out.length]), ((9, 8), .row 3 1 (nsl out)),
   ((10, 9), .box 100 [.fn (.func 134) [] [.ptr (5, 9) 0, .ptr (6, 9) 0, .ptr (8, 9) 0, .ptr (10, 9) 0]])]
abbrev I11o : List Oid := [(0, 9), (1, 9), (2, 8), (3, 9), (4, 8), (5, 9), (6, 9), (7, 9), (8, 9), (9, 8), (10, 9)]
abbrev P8 : List Oid := [(0, 9), (1, 9), (3, 9), (5, 9), (6, 9), (7, 9), (8, 9), (10, 9)]
set_option maxHeartbeats 4000000 in
theorem visit_spec (n : Nat) (P A : List Nat) (hP : P.length = n) (hA : A.length = n) (hn : n ≤ 64) (hwP : ∀ v, P.getD v 0 < 18446744073709551616) (hwA : ∀ v, A.getD v 0 < 18446744073709551616) (hpar : ∀ v p : Nat, p ∈ wat n P (v : Int) → p < n)
    (h : Nat) (sc : List Nat) (st : List Int) (h1 : st.length ≤ 4611686018427387904) : ∀ (k v : Nat) (ord out : List Nat), ok1 n ord → ok1 n out → n + 1 ≤ out.length + k →
    Spec Try.prog 134 (inStI [.v (.int .i64 (v : Int)), .ptr (5, 9) 0, .ptr (6, 9) 0, .ptr (8, 9) 0, .ptr (10, 9) 0] (SSL n P A h sc st ord ++ VIL out))
      (outStI (.v (.bool (vis (fun o => con (anR n A) n o st) (unN st) (fun v => wat n P (v : Int)) k v (ord, out)).2))
        (SSO n P A h sc st (vis (fun o => con (anR n A) n o st) (unN st) (fun v => wat n P (v : Int)) k v (ord, out)).1.1 ++ VOL (vis (fun o => con (anR n A) n o st) (unN st) (fun v => wat n P (v : Int)) k v (ord, out)).1.2) I11o P8) := by
  intro k
  induction k with
  | zero => intro v ord out _ h2 hk; have := h2.len; omega
  | succ k ih =>
    intro v ord out ho1 ho2 hk
    obtain ⟨res, hres⟩ : ∃ r, r = vis (fun o => con (anR n A) n o st) (unN st) (fun v => wat n P (v : Int)) (k + 1) v (ord, out) := ⟨_, rfl⟩
    rw [← hres]
    have hpa := parents_spec n P A hP hn hwP (v : Int)
    have hLn : ∀ p ∈ wat n P (v : Int), p < n := fun p hp => hpar v p hp
    have hLl := wat_len (n := n) P (v : Int)
    have hun : vis (fun o => con (anR n A) n o st) (unN st) (fun v => wat n P (v : Int)) (k + 1) v (ord, out) = vlist (vstep (fun o => con (anR n A) n o st) (unN st) (vis (fun o => con (anR n A) n o st) (unN st) (fun v => wat n P (v : Int)) k)) (wat n P (v : Int)) (ord, out) := rfl
    rw [hun] at hres
    clear hun
    obtain ⟨stp, hstp⟩ : ∃ s, s = vstep (fun o => con (anR n A) n o st) (unN st) (vis (fun o => con (anR n A) n o st) (unN st) (fun v => wat n P (v : Int)) k) := ⟨_, rfl⟩
    have hvl := fun i => vlist_ok (cf := fun o => con (anR n A) n o st) (un := unN st) (par := fun v => wat n P (v : Int)) (n := n) (k := k) (fun v _ p hp => hpar v p hp) (l := (wat n P (v : Int)).take i) (q := (ord, out)) (fun p hp => hLn p (List.mem_of_mem_take hp)) ho1 ho2
    rw [← hstp] at hres hvl
    generalize wat n P (v : Int) = L at *
    obtain ⟨Q, hQ⟩ : ∃ Q : Nat → VS, Q = fun i => (vlist stp (L.take i) (ord, out)).1 := ⟨_, rfl⟩
    have hQi : ∀ i, (vlist stp (L.take i) (ord, out)).1 = Q i := fun i => by rw [hQ]
    have hQ0 : Q 0 = (ord, out) := by rw [hQ]; rfl
    simp only [hQi] at hvl
    have hsuc : ∀ i, i < L.length → (vlist stp (L.take i) (ord, out)).2 = true → vlist stp (L.take (i + 1)) (ord, out) = stp (L.getD i 0) (Q i) := fun i hi ht => by rw [vlist_succ hi ht, hQi]
    have hret : ∀ i, i < L.length → (vlist stp (L.take i) (ord, out)).2 = true → (stp (L.getD i 0) (Q i)).2 = false → res = stp (L.getD i 0) (Q i) := fun i hi ht hf => by
      have e := hsuc i hi ht
      rw [hres, vlist_stop (i := i + 1) (by rw [e]; exact hf), e]
    have hnext : ∀ i, i < L.length → (vlist stp (L.take i) (ord, out)).2 = true → (stp (L.getD i 0) (Q i)).2 = true → (vlist stp (L.take (i + 1)) (ord, out)).2 = true ∧ Q (i + 1) = (stp (L.getD i 0) (Q i)).1 := fun i hi ht hf => by
      have e := hsuc i hi ht
      refine ⟨by rw [e]; exact hf, ?_⟩
      rw [← hQi, e]
    have hend : (vlist stp (L.take L.length) (ord, out)).2 = true → res = (Q L.length, true) := fun ht => by
      rw [hres, ← hQi]
      rw [List.take_length] at ht ⊢
      exact Prod.ext rfl ht
    refine Spec.ofNI Try.func134 rfl Try.ntmps134 rfl ?_
    refine D_seq fun K1 hK1 => ?_
    refine D_region ?_
    refine DL_c (asB rfl) ?_
    refine DL_nil (hK1 _ ?_)
    clear hK1; try clear K1
    refine D_seq fun K2 hK2 => ?_
    refine D_seq fun K3 hK3 => ?_
    refine D_region ?_
    refine DL_c (op_ldB _ inferInstance rfl rfl (rfl : _ = some (AV.ptr _ _))) ?_
    refine DL_c (op_nilp _ rfl rfl) ?_
    refine DL_c (op_fldP _ inferInstance rfl rfl rfl) ?_
    refine DL_c (op_ldB _ inferInstance rfl rfl (rfl : _ = some (AV.fp _ _))) ?_
    refine DL_c (mvI rfl) ?_
    refine DL_c (op_callH inferInstance (by repeat' (first | exact argsLv_nil | refine argsLv_cons ?_ ?_ | exact Lv.v | exact Lv.fp)) (hpa) rfl rfl) ?_
    refine DL_c (op_lenS _ inferInstance rfl) ?_
    refine DL_c (mvI rfl) ?_
    refine DL_nil (hK3 _ ?_)
    clear hK3; try clear K3
    refine D_block ?_
    refine D_loopL (α := Nat) (fun i => i ≤ L.length ∧ (vlist stp (L.take i) (ord, out)).2 = true) 44 [(1, _), (2, _), (3, _), (4, _), (15, _), (16, _)] [((5, 9), _), ((6, 9), _), ((10, 9), _)] (fun i => [(17, .v (.int .i64 (i : Int)))]) (fun i => [((0, 9), .box 136 [.fp 0 (gra n P A), .v (.int .i64 (h : Int)), .sl sc.length (nsl sc), .fn (.func 73) [.ptr (3, 9) 0] [], .mp (1, 9), .ref (2, 9) 0 (Q i).1.length]), ((1, 9), .mp (ment (mmap st (Q i).1)) (mmap st (Q i).1).length), ((2, 9), .row 3 1 (nsl (Q i).1)), ((3, 9), .box 93 [.sl st.length (isl st), .ref (4, 9) 0 (Q i).1.length]), ((4, 9), .row 3 1 (nsl (Q i).1)), ((7, 9), .mp (ment (smap (Q i).2)) (smap (Q i).2).length), ((8, 9), .box 29 [.ref (9, 9) 0 (Q i).2.length]), ((9, 9), .row 3 1 (nsl (Q i).2))]) [(0, 9), (1, 9), (2, 9), (3, 9), (4, 9), (5, 9), (6, 9), (7, 9), (8, 9), (9, 9), (10, 9)] [(0, 9), (1, 9), (3, 9), (5, 9), (6, 9), (7, 9), (8, 9), (10, 9)] (fun i => L.length - i) 0 ?_ (by
      refine Le.mkJ [] [] rfl ?_ ?_ trivial ⟨rfl, rfl, rfl, rfl, rfl, rfl, rfl, rfl, trivial⟩ ?_
      · exact ⟨(iP rfl), (iP rfl), (iP rfl), (iP rfl), (iS rfl), (iV rfl), (lvI (by rfl)), trivial⟩
      · exact ⟨(obE rfl rfl rfl), (obE rfl rfl rfl), (obE rfl rfl rfl), (obB rfl rfl rfl rfl (lv_cons (by repeat' (exact Lv.fp)) (lv_cons (lvI (by rfl)) (lv_cons (lvSr (by rfl) (by rfl)) (lv_cons (by repeat' (first | exact lvPr rfl | refine Lv.fn rfl ?_ rfl ?_ | exact lv_nil | refine lv_cons ?_ ?_)) (lv_cons (by repeat' (exact Lv.mp)) (lv_cons (lvRr rfl (by (rw [hQ0]))) lv_nil))))))), (obM rfl rfl rfl (by (rw [hQ0])) (by (rw [hQ0]))), (obR rfl rfl rfl (by (rw [hQ0]))), (obB rfl rfl rfl rfl (lv_cons (lvSr (by rfl) (by rfl)) (lv_cons (lvRr rfl (by (rw [hQ0]))) lv_nil))), (obR rfl rfl rfl (by (rw [hQ0]))), (obM rfl rfl rfl (by (rw [hQ0])) (by (rw [hQ0]))), (obB rfl rfl rfl rfl (lv_cons (lvRr rfl (by (rw [hQ0]))) lv_nil)), (obR rfl rfl rfl (by (rw [hQ0]))), trivial⟩
      · kernel_rfl) ?_
    · exact ⟨Nat.zero_le _, rfl⟩
    intro i hi
    obtain ⟨hi, ht⟩ := hi
    obtain ⟨hk1, hk2, _, hpre⟩ := hvl i
    have hle := pre_len hpre
    have hk1l := hk1.len
    have hk2l := hk2.len
    have hQs := hret i
    have hQn := hnext i
    obtain ⟨o, hoq⟩ : ∃ o, o = (Q i).1 := ⟨_, rfl⟩
    obtain ⟨u, huq⟩ : ∃ u, u = (Q i).2 := ⟨_, rfl⟩
    have hou : Q i = (o, u) := Prod.ext hoq.symm huq.symm
    rw [hou] at hQs hQn
    rw [← hoq] at hk1 hk1l
    rw [← huq] at hk2 hpre hle hk2l
    rw [← hoq, ← huq]
    refine D_seq fun K4 hK4 => ?_
    refine D_region ?_
    refine DL_c (op_lss _ _ rfl rfl rfl) ?_
    refine DL_nil (hK4 _ ?_)
    clear hK4; try clear K4
    refine D_seq fun K5 hK5 => ?_
    refine D_splitC rfl (fun hc18 => ?_) (fun hc18 => ?_)
    · skip
      obtain ⟨p, hp⟩ : ∃ p, p = L.getD i 0 := ⟨_, rfl⟩
      have hpn : p < n := hp ▸ hLn _ (getD_mem (by omega))
      have hQs := hQs (by omega) ht
      have hQn := hQn (by omega) ht
      rw [← hp] at hQs hQn
      have hko := adN_ok hk1 hpn
      have hkol := hko.len
      refine D_skip (hK5 _ ?_)
      clear hK5; try clear K5
      refine D_seq fun K6 hK6 => ?_
      refine D_block ?_
      refine D_seq fun K7 hK7 => ?_
      refine D_region ?_
      refine DL_c (op_ixS _ _ inferInstance rfl rfl _ rfl (by omega) (by (simp only [isl_len, bsl_len, psl_len, mrows_len, nsl_len, ws_len, List.length_map, ul_len, psl_len, isl_len, nrows_len, mmap_len, smap_len]; omega)) (by exact Nat.mul_one _)) ?_
      refine DL_c (op_ldF _ inferInstance rfl (by exact (nsl_get _ _ (by omega)).trans (by rw [← hp])) rfl) ?_
      refine DL_c (asI rfl) ?_
      refine DL_nil (hK7 _ ?_)
      clear hK7; try clear K7
      refine D_seq fun K8 hK8 => ?_
      refine D_region ?_
      refine DL_c (op_ldB _ inferInstance rfl rfl (rfl : _ = some (AV.ptr _ _))) ?_
      refine DL_c (mvI rfl) ?_
      refine DL_c (op_callP inferInstance [((2, 8), (62, 0)), ((4, 8), (64, 0))] ?_ (try_spec n P A hn h sc st h1 o hk1 p) (insK ⟨rfl, rfl, rfl, rfl, rfl, trivial⟩ rfl rfl) ⟨rfl, rfl, rfl, rfl, rfl, trivial⟩ (by kernel_rfl)) ?_
      · repeat' (first | exact argsR_nil | refine argsR_cons ?_ ?_ | exact Lv.v | exact lvPr rfl)
      refine DL_c (asI rfl) ?_
      refine DL_nil (hK8 _ ?_)
      clear hK8; try clear K8
      refine D_seq fun K9 hK9 => ?_
      refine D_seq fun K10 hK10 => ?_
      refine D_le (σ' := mkStI 44 [(1, _), (2, _), (3, _), (4, _), (8, _), (9, _), (15, _), (16, _), (17, _)] [((5, 9), _), ((6, 9), _), ((10, 9), _), ((0, 9), .box _ [_, _, _, _, _, .ref (2, 9) _ _]), ((1, 9), _), ((3, 9), .box _ [_, .ref (4, 9) _ _]), ((7, 9), _), ((8, 9), _), ((9, 9), _), ((2, 9), _), ((4, 9), _)] [(0, 9), (1, 9), (2, 9), (3, 9), (4, 9), (5, 9), (6, 9), (7, 9), (8, 9), (9, 9), (10, 9)] [(0, 9), (1, 9), (3, 9), (5, 9), (6, 9), (7, 9), (8, 9), (10, 9)]) (by
        refine Le.mkJ [((2, 9), (62, 0)), ((4, 9), (64, 0))] [] rfl ?_ ?_ trivial ⟨rfl, rfl, rfl, rfl, rfl, rfl, rfl, rfl, trivial⟩ ?_
        · exact ⟨(lvW [(5, 9), (6, 9), (10, 9), (0, 9), (1, 9), (3, 9), (7, 9), (8, 9), (9, 9)] rfl (rfl : _ = AV.ptr _ _) rfl), (lvW [(5, 9), (6, 9), (10, 9), (0, 9), (1, 9), (3, 9), (7, 9), (8, 9), (9, 9)] rfl (rfl : _ = AV.ptr _ _) rfl), (lvW [(5, 9), (6, 9), (10, 9), (0, 9), (1, 9), (3, 9), (7, 9), (8, 9), (9, 9)] rfl (rfl : _ = AV.ptr _ _) rfl), (lvW [(5, 9), (6, 9), (10, 9), (0, 9), (1, 9), (3, 9), (7, 9), (8, 9), (9, 9)] rfl (rfl : _ = AV.ptr _ _) rfl), (lvW [(5, 9), (6, 9), (10, 9), (0, 9), (1, 9), (3, 9), (7, 9), (8, 9), (9, 9)] rfl (rfl : _ = AV.v _) rfl), (lvW [(5, 9), (6, 9), (10, 9), (0, 9), (1, 9), (3, 9), (7, 9), (8, 9), (9, 9)] rfl (rfl : _ = AV.v _) rfl), (lvW [(5, 9), (6, 9), (10, 9), (0, 9), (1, 9), (3, 9), (7, 9), (8, 9), (9, 9)] rfl (rfl : _ = AV.sl _ _) rfl), (lvW [(5, 9), (6, 9), (10, 9), (0, 9), (1, 9), (3, 9), (7, 9), (8, 9), (9, 9)] rfl (rfl : _ = AV.v _) rfl), (lvW [(5, 9), (6, 9), (10, 9), (0, 9), (1, 9), (3, 9), (7, 9), (8, 9), (9, 9)] rfl (rfl : _ = AV.v _) rfl), trivial⟩
        · exact ⟨(obW [(5, 9), (6, 9), (10, 9), (0, 9), (1, 9), (3, 9), (7, 9), (8, 9), (9, 9)] rfl rfl rfl rfl rfl), (obW [(5, 9), (6, 9), (10, 9), (0, 9), (1, 9), (3, 9), (7, 9), (8, 9), (9, 9)] rfl rfl rfl rfl rfl), (obW [(5, 9), (6, 9), (10, 9), (0, 9), (1, 9), (3, 9), (7, 9), (8, 9), (9, 9)] rfl rfl rfl rfl rfl), (obB rfl rfl rfl rfl (lv_cons (by exact lvW [(5, 9), (6, 9), (10, 9), (0, 9), (1, 9), (3, 9), (7, 9), (8, 9), (9, 9)] rfl (rfl : _ = AV.fp _ _) rfl) (lv_cons (by exact lvW [(5, 9), (6, 9), (10, 9), (0, 9), (1, 9), (3, 9), (7, 9), (8, 9), (9, 9)] rfl (rfl : _ = AV.v _) rfl) (lv_cons (by exact lvW [(5, 9), (6, 9), (10, 9), (0, 9), (1, 9), (3, 9), (7, 9), (8, 9), (9, 9)] rfl (rfl : _ = AV.sl _ _) rfl) (lv_cons (by exact lvW [(5, 9), (6, 9), (10, 9), (0, 9), (1, 9), (3, 9), (7, 9), (8, 9), (9, 9)] rfl (rfl : _ = AV.fn _ _ _) rfl) (lv_cons (by exact lvW [(5, 9), (6, 9), (10, 9), (0, 9), (1, 9), (3, 9), (7, 9), (8, 9), (9, 9)] rfl (rfl : _ = AV.mp _) rfl) (lv_cons (lvRr rfl (by rfl)) lv_nil))))))), (by exact obM rfl rfl rfl rfl rfl), (obB rfl rfl rfl rfl (lv_cons (by exact lvW [(5, 9), (6, 9), (10, 9), (0, 9), (1, 9), (3, 9), (7, 9), (8, 9), (9, 9)] rfl (rfl : _ = AV.sl _ _) rfl) (lv_cons (lvRr rfl (by rfl)) lv_nil))), (by exact obM rfl rfl rfl rfl rfl), (obW [(5, 9), (6, 9), (10, 9), (0, 9), (1, 9), (3, 9), (7, 9), (8, 9), (9, 9)] rfl rfl rfl rfl rfl), (by exact obR rfl rfl rfl rfl), (by exact obR rfl rfl rfl rfl), (by exact obR rfl rfl rfl rfl), trivial⟩
        · kernel_rfl) ?_
      refine D_region ?_
      refine DL_c (op_ldB _ inferInstance rfl rfl (rfl : _ = some (AV.ptr _ _))) ?_
      refine DL_c (op_callK0 inferInstance _ _ (by repeat' (first | exact argsR_nil | refine argsR_cons ?_ ?_ | exact lvPr rfl)) (con_spec n P A hA hn hwA h sc st (adN o p) hko) ⟨rfl, rfl, rfl, rfl, rfl, trivial⟩ rfl (by kernel_rfl) (by simp)) ?_
      refine DL_nil (hK10 _ ?_)
      clear hK10; try clear K10
      refine D_splitC rfl (fun hc25 => ?_) (fun hc25 => ?_)
      · skip
        refine D_seq fun K11 hK11 => ?_
        refine D_region ?_
        refine DL_c (asB rfl) ?_
        refine DL_nil (hK11 _ ?_)
        clear hK11; try clear K11
        refine D_ret ?_
        have e : stp p (o, u) = ((adN o p, u), false) := by rw [hstp, vstep]; rw [if_pos hc25]
        rw [e] at hQs
        have hr := hQs rfl
        subst hr
        exact ret1 (.inr rfl) rfl (.tmp (rfl : _ = AV.v (.bool _))) (Le.outI [((2, 8), (2, 9)), ((4, 8), (4, 9)), ((9, 8), (9, 9))] [] (lvB (rfl)) rfl rfl rfl trivial ⟨⟨rfl, ⟨_, rfl, .box rfl (lv_cons .fp (lv_cons .v (lv_cons .sl (lv_cons (.fn rfl (lv_cons (lvPr rfl) lv_nil) rfl lv_nil) (lv_cons .mp (lv_cons (lvRr rfl rfl) lv_nil))))))⟩, rfl⟩, ⟨rfl, ⟨_, rfl, .mp⟩, rfl⟩, ⟨rfl, ⟨_, rfl, .rowE rfl⟩, rfl⟩, ⟨rfl, ⟨_, rfl, .box rfl (lv_cons .sl (lv_cons (lvRr rfl rfl) lv_nil))⟩, rfl⟩, ⟨rfl, ⟨_, rfl, .rowE rfl⟩, rfl⟩, ⟨rfl, ⟨_, rfl, .box rfl (lv_cons (lvPr rfl) lv_nil)⟩, rfl⟩, ⟨rfl, ⟨_, rfl, .box rfl (lv_cons .mp lv_nil)⟩, rfl⟩, ⟨rfl, ⟨_, rfl, .mp⟩, rfl⟩, ⟨rfl, ⟨_, rfl, .box rfl (lv_cons (lvRr rfl rfl) lv_nil)⟩, rfl⟩, ⟨rfl, ⟨_, rfl, .rowE rfl⟩, rfl⟩, ⟨rfl, ⟨_, rfl, .box rfl (lv_cons (.fn rfl lv_nil rfl (lv_cons (lvPr rfl) (lv_cons (lvPr rfl) (lv_cons (lvPr rfl) (lv_cons (lvPr rfl) lv_nil))))) lv_nil)⟩, rfl⟩, trivial⟩ ⟨rfl, rfl, rfl, rfl, rfl, rfl, rfl, rfl, trivial⟩ rfl)
      · skip
        refine D_skip (hK9 _ ?_)
        clear hK9; try clear K9
        refine D_seq fun K12 hK12 => ?_
        refine D_seq fun K13 hK13 => ?_
        refine D_region ?_
        refine DL_c (mvI rfl) ?_
        refine DL_c (op_neq _ _ rfl rfl rfl) ?_
        refine DL_c (mvB rfl) ?_
        refine DL_caseC (fun hg28 => ?_) (fun hg28 => ?_)
        · skip
          have hu : unN st p = false := decide_eq_false hg28
          have e : stp p (o, u) = ((adN o p, u), true) := by rw [hstp, vstep, if_neg (by simp [hc25]), if_neg (by simp [hu])]
          rw [e] at hQn
          have hq := hQn rfl
          refine DL_cn rfl rfl (by decide) ?_
          refine DL_cn rfl rfl (by decide) ?_
          refine DL_cn rfl rfl (by decide) ?_
          refine DL_c (op_pick _ _ _ rfl (rfl : _ = AV.v (.bool _))) ?_
          refine DL_nil (hK13 _ ?_)
          clear hK13; try clear K13
          refine D_cT rfl rfl ?_
          refine D_exit ?_
          refine id (hK6 _ ?_)
          clear hK6; try clear K6
          refine D_region ?_
          refine DL_c (op_add _ _ rfl rfl (i64w (by omega))) ?_
          refine DL_c (mvI rfl) ?_
          refine DL_nil ?_
          refine ⟨i + 1, ?_, ?_, ?_⟩
          · exact ⟨by omega, hq.1⟩
          · skip
            refine Le.mkJ [] [] rfl ?_ ?_ trivial ⟨rfl, rfl, rfl, rfl, rfl, rfl, rfl, rfl, trivial⟩ ?_
            · exact ⟨(iP rfl), (iP rfl), (iP rfl), (iP rfl), (iS rfl), (iV rfl), (lvI (by rfl)), trivial⟩
            · exact ⟨(obE rfl rfl rfl), (obE rfl rfl rfl), (obE rfl rfl rfl), (obB rfl rfl rfl rfl (lv_cons (by repeat' (exact Lv.fp)) (lv_cons (lvI (by rfl)) (lv_cons (lvSr (by rfl) (by rfl)) (lv_cons (by repeat' (first | exact lvPr rfl | refine Lv.fn rfl ?_ rfl ?_ | exact lv_nil | refine lv_cons ?_ ?_)) (lv_cons (by repeat' (exact Lv.mp)) (lv_cons (lvRr rfl (by (rw [hq.2]))) lv_nil))))))), (obM rfl rfl rfl (by (rw [hq.2])) (by (rw [hq.2]))), (obR rfl rfl rfl (by (rw [hq.2]))), (obB rfl rfl rfl rfl (lv_cons (lvSr (by rfl) (by rfl)) (lv_cons (lvRr rfl (by (rw [hq.2]))) lv_nil))), (obR rfl rfl rfl (by (rw [hq.2]))), (obM rfl rfl rfl (by (rw [hq.2])) (by (rw [hq.2]))), (obB rfl rfl rfl rfl (lv_cons (lvRr rfl (by (rw [hq.2]))) lv_nil)), (obR rfl rfl rfl (by (rw [hq.2]))), trivial⟩
            · kernel_rfl
          · omega
        · skip
          have hu : unN st p = true := decide_eq_true hg28
          refine DL_cy rfl rfl (op_ldB _ inferInstance rfl rfl (rfl : _ = some (AV.mp _))) ?_
          refine DL_cy rfl rfl (mvI rfl) ?_
          refine DL_cy rfl rfl (op_look1 _ _ Try.underlying158 Try.underlying3 Try.zeroValue4 rfl rfl rfl (smap_look u p)) ?_
          refine DL_c (op_pick _ _ _ rfl (rfl : _ = AV.v (.bool _))) ?_
          refine DL_nil (hK13 _ ?_)
          clear hK13; try clear K13
          refine D_splitC rfl (fun hc32 => ?_) (fun hc32 => ?_)
          · skip
            have e : stp p (o, u) = ((adN o p, u), true) := by rw [hstp, vstep, if_neg (by simp [hc25]), if_neg (fun h => h.2 hc32)]
            rw [e] at hQn
            have hq := hQn rfl
            refine D_exit ?_
            refine id (hK6 _ ?_)
            clear hK6; try clear K6
            refine D_region ?_
            refine DL_c (op_add _ _ rfl rfl (i64w (by omega))) ?_
            refine DL_c (mvI rfl) ?_
            refine DL_nil ?_
            refine ⟨i + 1, ?_, ?_, ?_⟩
            · exact ⟨by omega, hq.1⟩
            · skip
              refine Le.mkJ [] [] rfl ?_ ?_ trivial ⟨rfl, rfl, rfl, rfl, rfl, rfl, rfl, rfl, trivial⟩ ?_
              · exact ⟨(iP rfl), (iP rfl), (iP rfl), (iP rfl), (iS rfl), (iV rfl), (lvI (by rfl)), trivial⟩
              · exact ⟨(obE rfl rfl rfl), (obE rfl rfl rfl), (obE rfl rfl rfl), (obB rfl rfl rfl rfl (lv_cons (by repeat' (exact Lv.fp)) (lv_cons (lvI (by rfl)) (lv_cons (lvSr (by rfl) (by rfl)) (lv_cons (by repeat' (first | exact lvPr rfl | refine Lv.fn rfl ?_ rfl ?_ | exact lv_nil | refine lv_cons ?_ ?_)) (lv_cons (by repeat' (exact Lv.mp)) (lv_cons (lvRr rfl (by (rw [hq.2]))) lv_nil))))))), (obM rfl rfl rfl (by (rw [hq.2])) (by (rw [hq.2]))), (obR rfl rfl rfl (by (rw [hq.2]))), (obB rfl rfl rfl rfl (lv_cons (lvSr (by rfl) (by rfl)) (lv_cons (lvRr rfl (by (rw [hq.2]))) lv_nil))), (obR rfl rfl rfl (by (rw [hq.2]))), (obM rfl rfl rfl (by (rw [hq.2])) (by (rw [hq.2]))), (obB rfl rfl rfl rfl (lv_cons (lvRr rfl (by (rw [hq.2]))) lv_nil)), (obR rfl rfl rfl (by (rw [hq.2]))), trivial⟩
              · kernel_rfl
            · omega
          · skip
            have hnp : p ∉ u := hc32
            have hih := ih p (adN o p) (u ++ [p]) hko (hk2.add hpn hnp) (by rw [List.length_append]; simp only [List.length_cons, List.length_nil]; omega)
            have e : stp p (o, u) = vis (fun o => con (anR n A) n o st) (unN st) (fun v => wat n P (v : Int)) k p (adN o p, u ++ [p]) := by rw [hstp, vstep, if_neg (by simp [hc25]), if_pos ⟨hu, hnp⟩]
            rw [← e] at hih
            generalize stp p (o, u) = rr at hih e hQs hQn
            refine D_skip (hK12 _ ?_)
            clear hK12; try clear K12
            refine D_seq fun K14 hK14 => ?_
            refine D_region ?_
            refine DL_c (op_ldB _ inferInstance rfl rfl (rfl : _ = some (AV.mp _))) ?_
            refine DL_c (mvI rfl) ?_
            refine DL_c (op_updM _ _ _ Try.underlying158 Try.underlying3 rfl rfl rfl rfl rfl (smap_none hnp) (smap_app u p) rfl) ?_
            refine DL_nil (hK14 _ ?_)
            clear hK14; try clear K14
            refine D_seq fun K15 hK15 => ?_
            refine D_region ?_
            refine DL_c (op_ldB _ inferInstance rfl rfl (rfl : _ = some (AV.ref _ _ _))) ?_
            refine DL_c (mvI rfl) ?_
            refine DL_c (op_bsF _ _ inferInstance rfl (by rfl) (by simp <;> rfl) (by decide) rfl) ?_
            refine DL_c (op_ap (38, 0) _ _ inferInstance rfl rfl (by rw [nsl_len, Nat.mul_one]) (.sl rfl) (by omega) rfl (nsl_snoc u p) (show u.length + 1 = (u ++ [p]).length by simp)) ?_
            refine DL_c (op_stB _ _ inferInstance rfl rfl rfl rfl (Nat.le_of_ble_eq_true rfl) rfl) ?_
            refine DL_nil (hK15 _ ?_)
            clear hK15; try clear K15
            refine D_seq fun K16 hK16 => ?_
            refine D_le (σ' := mkStI 44 [(1, _), (2, _), (3, _), (4, _), (8, _), (15, _), (16, _), (17, _)] [((5, 9), _), ((6, 9), _), ((10, 9), _), ((0, 9), _), ((1, 9), _), ((3, 9), _), ((7, 9), _), ((8, 9), .box _ [.ref (9, 9) _ _]), ((2, 9), _), ((4, 9), _), ((9, 9), _)] [(0, 9), (1, 9), (2, 9), (3, 9), (4, 9), (5, 9), (6, 9), (7, 9), (8, 9), (9, 9), (10, 9)] [(0, 9), (1, 9), (3, 9), (5, 9), (6, 9), (7, 9), (8, 9), (10, 9)]) (by
              refine Le.mkJ [((9, 9), (38, 0))] [] rfl ?_ ?_ trivial ⟨rfl, rfl, rfl, rfl, rfl, rfl, rfl, rfl, trivial⟩ ?_
              · exact ⟨(lvW [(5, 9), (6, 9), (10, 9), (0, 9), (1, 9), (3, 9), (7, 9), (8, 9), (2, 9), (4, 9)] rfl (rfl : _ = AV.ptr _ _) rfl), (lvW [(5, 9), (6, 9), (10, 9), (0, 9), (1, 9), (3, 9), (7, 9), (8, 9), (2, 9), (4, 9)] rfl (rfl : _ = AV.ptr _ _) rfl), (lvW [(5, 9), (6, 9), (10, 9), (0, 9), (1, 9), (3, 9), (7, 9), (8, 9), (2, 9), (4, 9)] rfl (rfl : _ = AV.ptr _ _) rfl), (lvW [(5, 9), (6, 9), (10, 9), (0, 9), (1, 9), (3, 9), (7, 9), (8, 9), (2, 9), (4, 9)] rfl (rfl : _ = AV.ptr _ _) rfl), (lvW [(5, 9), (6, 9), (10, 9), (0, 9), (1, 9), (3, 9), (7, 9), (8, 9), (2, 9), (4, 9)] rfl (rfl : _ = AV.v _) rfl), (lvW [(5, 9), (6, 9), (10, 9), (0, 9), (1, 9), (3, 9), (7, 9), (8, 9), (2, 9), (4, 9)] rfl (rfl : _ = AV.sl _ _) rfl), (lvW [(5, 9), (6, 9), (10, 9), (0, 9), (1, 9), (3, 9), (7, 9), (8, 9), (2, 9), (4, 9)] rfl (rfl : _ = AV.v _) rfl), (lvW [(5, 9), (6, 9), (10, 9), (0, 9), (1, 9), (3, 9), (7, 9), (8, 9), (2, 9), (4, 9)] rfl (rfl : _ = AV.v _) rfl), trivial⟩
              · exact ⟨(obW [(5, 9), (6, 9), (10, 9), (0, 9), (1, 9), (3, 9), (7, 9), (8, 9), (2, 9), (4, 9)] rfl rfl rfl rfl rfl), (obW [(5, 9), (6, 9), (10, 9), (0, 9), (1, 9), (3, 9), (7, 9), (8, 9), (2, 9), (4, 9)] rfl rfl rfl rfl rfl), (obW [(5, 9), (6, 9), (10, 9), (0, 9), (1, 9), (3, 9), (7, 9), (8, 9), (2, 9), (4, 9)] rfl rfl rfl rfl rfl), (obW [(5, 9), (6, 9), (10, 9), (0, 9), (1, 9), (3, 9), (7, 9), (8, 9), (2, 9), (4, 9)] rfl rfl rfl rfl rfl), (by exact obM rfl rfl rfl rfl rfl), (obW [(5, 9), (6, 9), (10, 9), (0, 9), (1, 9), (3, 9), (7, 9), (8, 9), (2, 9), (4, 9)] rfl rfl rfl rfl rfl), (by exact obM rfl rfl rfl rfl rfl), (obB rfl rfl rfl rfl (lv_cons (lvRr rfl (by rfl)) lv_nil)), (by exact obR rfl rfl rfl rfl), (by exact obR rfl rfl rfl rfl), (by exact obR rfl rfl rfl rfl), trivial⟩
              · kernel_rfl) ?_
            refine D_region ?_
            refine DL_c (op_ldB _ inferInstance rfl rfl (rfl : _ = some (AV.fn _ _ _))) ?_
            refine DL_c (mvI rfl) ?_
            refine DL_c (op_callPV rfl inferInstance [((2, 8), (72, 0)), ((4, 8), (74, 0)), ((9, 8), (79, 0))] ?_ (hih) (insK ⟨rfl, rfl, rfl, rfl, rfl, rfl, rfl, rfl, rfl, rfl, rfl, trivial⟩ rfl rfl) ⟨rfl, rfl, rfl, rfl, rfl, rfl, rfl, rfl, rfl, rfl, rfl, trivial⟩ (by kernel_rfl)) ?_
            · repeat' (first | exact argsR_nil | refine argsR_cons ?_ ?_ | exact Lv.v | exact lvPr rfl)
            refine DL_c (op_not _ rfl rfl) ?_
            refine DL_nil (hK16 _ ?_)
            clear hK16; try clear K16
            refine D_splitC rfl (fun hc42 => ?_) (fun hc42 => ?_)
            · skip
              refine D_seq fun K17 hK17 => ?_
              refine D_region ?_
              refine DL_c (asB rfl) ?_
              refine DL_nil (hK17 _ ?_)
              clear hK17; try clear K17
              refine D_ret ?_
              have hr := hQs hc42
              subst hr
              exact ret1 (.inr rfl) rfl (.tmp (rfl : _ = AV.v (.bool _))) (Le.outI [((2, 8), (72, 0)), ((4, 8), (74, 0)), ((9, 8), (79, 0))] [] (lvB hc42) rfl rfl rfl trivial ⟨⟨rfl, ⟨_, rfl, .box rfl (lv_cons .fp (lv_cons .v (lv_cons .sl (lv_cons (.fn rfl (lv_cons (lvPr rfl) lv_nil) rfl lv_nil) (lv_cons .mp (lv_cons (lvRr rfl rfl) lv_nil))))))⟩, rfl⟩, ⟨rfl, ⟨_, rfl, .mp⟩, rfl⟩, ⟨rfl, ⟨_, rfl, .rowE rfl⟩, rfl⟩, ⟨rfl, ⟨_, rfl, .box rfl (lv_cons .sl (lv_cons (lvRr rfl rfl) lv_nil))⟩, rfl⟩, ⟨rfl, ⟨_, rfl, .rowE rfl⟩, rfl⟩, ⟨rfl, ⟨_, rfl, .box rfl (lv_cons (lvPr rfl) lv_nil)⟩, rfl⟩, ⟨rfl, ⟨_, rfl, .box rfl (lv_cons .mp lv_nil)⟩, rfl⟩, ⟨rfl, ⟨_, rfl, .mp⟩, rfl⟩, ⟨rfl, ⟨_, rfl, .box rfl (lv_cons (lvRr rfl rfl) lv_nil)⟩, rfl⟩, ⟨rfl, ⟨_, rfl, .rowE rfl⟩, rfl⟩, ⟨rfl, ⟨_, rfl, .box rfl (lv_cons (.fn rfl lv_nil rfl (lv_cons (lvPr rfl) (lv_cons (lvPr rfl) (lv_cons (lvPr rfl) (lv_cons (lvPr rfl) lv_nil))))) lv_nil)⟩, rfl⟩, trivial⟩ ⟨rfl, rfl, rfl, rfl, rfl, rfl, rfl, rfl, trivial⟩ rfl)
            · skip
              have hq := hQn hc42
              refine D_skip (hK6 _ ?_)
              clear hK6; try clear K6
              refine D_region ?_
              refine DL_c (op_add _ _ rfl rfl (i64w (by omega))) ?_
              refine DL_c (mvI rfl) ?_
              refine DL_nil ?_
              refine ⟨i + 1, ?_, ?_, ?_⟩
              · exact ⟨by omega, hq.1⟩
              · skip
                refine Le.mkJ [((2, 9), (72, 0)), ((4, 9), (74, 0)), ((9, 9), (79, 0))] [] rfl ?_ ?_ trivial ⟨rfl, rfl, rfl, rfl, rfl, rfl, rfl, rfl, trivial⟩ ?_
                · exact ⟨(lvPr (id := (5, 9)) rfl), (lvPr (id := (6, 9)) rfl), (lvPr (id := (8, 9)) rfl), (lvPr (id := (10, 9)) rfl), (by repeat' (exact Lv.sl)), (by repeat' (exact Lv.v)), (lvI (by rfl)), trivial⟩
                · exact ⟨(obB rfl rfl rfl rfl (by repeat' (first | exact lvPr (id := (0, 9)) rfl | exact lv_nil | refine lv_cons ?_ ?_))), (obB rfl rfl rfl rfl (by repeat' (first | exact Lv.mp | exact lv_nil | refine lv_cons ?_ ?_))), (obB rfl rfl rfl rfl (by repeat' (first | exact lvPr (id := (5, 9)) rfl | exact lvPr (id := (6, 9)) rfl | exact lvPr (id := (10, 9)) rfl | exact lvPr (id := (8, 9)) rfl | refine Lv.fn rfl ?_ rfl ?_ | exact lv_nil | refine lv_cons ?_ ?_))), (obB rfl rfl rfl rfl (lv_cons (by repeat' (exact Lv.fp)) (lv_cons (lvI (by rfl)) (lv_cons (lvSr (by rfl) (by rfl)) (lv_cons (by repeat' (first | exact lvPr (id := (3, 9)) rfl | refine Lv.fn rfl ?_ rfl ?_ | exact lv_nil | refine lv_cons ?_ ?_)) (lv_cons (by repeat' (exact Lv.mp)) (lv_cons (lvRr rfl (by (rw [hq.2]))) lv_nil))))))), (obM rfl rfl rfl (by (rw [hq.2])) (by (rw [hq.2]))), (obR rfl rfl rfl (by (rw [hq.2]))), (obB rfl rfl rfl rfl (lv_cons (lvSr (by rfl) (by rfl)) (lv_cons (lvRr rfl (by (rw [hq.2]))) lv_nil))), (obR rfl rfl rfl (by (rw [hq.2]))), (obM rfl rfl rfl (by (rw [hq.2])) (by (rw [hq.2]))), (obB rfl rfl rfl rfl (lv_cons (lvRr rfl (by (rw [hq.2]))) lv_nil)), (obR rfl rfl rfl (by (rw [hq.2]))), trivial⟩
                · kernel_rfl
              · omega
    · skip
      obtain rfl : i = L.length := by omega
      have hr := hend ht
      rw [hou] at hr
      subst hr
      refine D_exit ?_
      refine id (hK2 _ ?_)
      clear hK2; try clear K2
      refine D_seq fun K18 hK18 => ?_
      refine D_region ?_
      refine DL_c (asB rfl) ?_
      refine DL_nil (hK18 _ ?_)
      clear hK18; try clear K18
      refine D_ret ?_
      exact ret1 (.inr rfl) rfl (.tmp (rfl : _ = AV.v (.bool _))) (Le.outI [((2, 8), (2, 9)), ((4, 8), (4, 9)), ((9, 8), (9, 9))] [] (lvB (rfl)) rfl rfl rfl trivial ⟨⟨rfl, ⟨_, rfl, .box rfl (lv_cons .fp (lv_cons .v (lv_cons .sl (lv_cons (.fn rfl (lv_cons (lvPr rfl) lv_nil) rfl lv_nil) (lv_cons .mp (lv_cons (lvRr rfl rfl) lv_nil))))))⟩, rfl⟩, ⟨rfl, ⟨_, rfl, .mp⟩, rfl⟩, ⟨rfl, ⟨_, rfl, .rowE rfl⟩, rfl⟩, ⟨rfl, ⟨_, rfl, .box rfl (lv_cons .sl (lv_cons (lvRr rfl rfl) lv_nil))⟩, rfl⟩, ⟨rfl, ⟨_, rfl, .rowE rfl⟩, rfl⟩, ⟨rfl, ⟨_, rfl, .box rfl (lv_cons (lvPr rfl) lv_nil)⟩, rfl⟩, ⟨rfl, ⟨_, rfl, .box rfl (lv_cons .mp lv_nil)⟩, rfl⟩, ⟨rfl, ⟨_, rfl, .mp⟩, rfl⟩, ⟨rfl, ⟨_, rfl, .box rfl (lv_cons (lvRr rfl rfl) lv_nil)⟩, rfl⟩, ⟨rfl, ⟨_, rfl, .rowE rfl⟩, rfl⟩, ⟨rfl, ⟨_, rfl, .box rfl (lv_cons (.fn rfl lv_nil rfl (lv_cons (lvPr rfl) (lv_cons (lvPr rfl) (lv_cons (lvPr rfl) (lv_cons (lvPr rfl) lv_nil))))) lv_nil)⟩, rfl⟩, trivial⟩ ⟨rfl, rfl, rfl, rfl, rfl, rfl, rfl, rfl, trivial⟩ rfl)
end Go.Proofs.Ytkbkmngbenohkaa

namespace Go.Proofs.Ytkbkmngbenohkaa
open Go.RowKit

set_option maxHeartbeats 4000000 in
theorem sus_spec (n : Nat) (P A : List Nat) (hP : P.length = n) (hA : A.length = n) (hn : n ≤ 64) (hwP : ∀ v, P.getD v 0 < 18446744073709551616) (hwA : ∀ v, A.getD v 0 < 18446744073709551616) (hpar : ∀ v p : Nat, p ∈ wat n P (v : Int) → p < n)
  (h : Nat) (sc : List Nat) (st : List Int) (h1 : st.length ≤ 4611686018427387904) (ord : List Nat) (ho : ok1 n ord) (v : Nat) (hv : v < n) :
  Spec Try.prog 112 (inStI [.ptr (0, 9) 0, .v (.int .i64 (v : Int))] (SSL n P A h sc st ord))
   (outStI (.tup [.ref (0, 8) 0 (fil n (vsF (anR n A) n (fun v => wat n P (v : Int)) st v (ord, [])).1.2).length, .v (.bool (vsF (anR n A) n (fun v => wat n P (v : Int)) st v (ord, [])).2)])
    (SSO n P A h sc st (vsF (anR n A) n (fun v => wat n P (v : Int)) st v (ord, [])).1.1 ++ [((0, 8), .row 3 1 (nsl (fil n (vsF (anR n A) n (fun v => wat n P (v : Int)) st v (ord, [])).1.2)))]) [(0, 9), (1, 9), (2, 8), (3, 9), (4, 8), (0, 8)] P3) := by
 have hvi := visit_spec n P A hP hA hn hwP hwA hpar h sc st h1 (n + 1) v ord [] ho ⟨List.nodup_nil, fun v hv => by simp at hv⟩ (by simp)
 obtain ⟨i1, i2, _, _⟩ := vis_ok (cf := fun o => con (anR n A) n o st) (un := unN st) (par := fun v => wat n P (v : Int)) (n := n) (k := n + 1) (v := v) (q := (ord, [])) (fun v _ p hp => hpar v p hp) hv ho ⟨List.nodup_nil, fun v hv => by simp at hv⟩
 obtain ⟨res, hres⟩ : ∃ r, r = vsF (anR n A) n (fun v => wat n P (v : Int)) st v (ord, []) := ⟨_, rfl⟩
 rw [← hres]
 unfold vsF at hres
 rw [← hres] at hvi i1 i2
 obtain ⟨⟨o, u⟩, b⟩ := res
 simp only at hvi i1 i2 ⊢
 have hul := i2.len
 have hfs := fil_srt i2
 have hfl : u.length = (fil n u).length := by
  have := congrArg List.length hfs
  simpa using this
 refine Spec.ofNI Try.func112 rfl Try.ntmps112 rfl ?_
 refine D_seq fun K1 hK1 => ?_
 refine D_region ?_
 refine DL_c (op_box (2, 0) _ rfl rfl) ?_
 refine DL_c (op_as _ (rfl : _ = AV.v (.slice _ _ _))) ?_
 refine DL_c (asB rfl) ?_
 refine DL_nil (hK1 _ ?_)
 clear hK1; try clear K1
 refine D_seq fun K2 hK2 => ?_
 refine D_region ?_
 refine DL_c (op_mkM (10, 0) rfl) ?_
 refine DL_c (op_alloc (6, 0) inferInstance rfl rfl) ?_
 refine DL_c (op_stB _ _ inferInstance rfl rfl rfl rfl (Nat.le_of_ble_eq_true rfl) rfl) ?_
 refine DL_nil (hK2 _ ?_)
 clear hK2; try clear K2
 refine D_seq fun K3 hK3 => ?_
 refine D_region ?_
 refine DL_c (op_alloc (7, 0) inferInstance rfl rfl) ?_
 refine DL_nil (hK3 _ ?_)
 clear hK3; try clear K3
 refine D_seq fun K4 hK4 => ?_
 refine D_region ?_
 refine DL_c (op_alloc (8, 0) inferInstance rfl rfl) ?_
 refine DL_nil (hK4 _ ?_)
 clear hK4; try clear K4
 refine D_seq fun K5 hK5 => ?_
 refine D_region ?_
 refine DL_c (op_mf _ _ (rfl : _ = []) (rfl : _ = [_, _, _, _])) ?_
 refine DL_c (op_stB _ _ inferInstance rfl rfl rfl rfl (Nat.le_of_ble_eq_true rfl) rfl) ?_
 refine DL_nil (hK5 _ ?_)
 clear hK5; try clear K5
 refine D_seq fun K6 hK6 => ?_
 refine D_le (Le.nilB (7, 0) 0 (90, 0) 3 1 rfl rfl rfl) ?_
 refine D_region ?_
 refine DL_c (op_ldB _ inferInstance rfl rfl (rfl : _ = some (AV.fn _ _ _))) ?_
 refine DL_c (mvI rfl) ?_
 refine DL_c (op_callPV rfl inferInstance [((5, 9), (2, 0)), ((6, 9), (6, 0)), ((7, 9), (10, 0)), ((8, 9), (7, 0)), ((9, 9), (90, 0)), ((10, 9), (8, 0)), ((2, 8), (72, 0)), ((4, 8), (74, 0)), ((9, 8), (79, 0))] ?_ (hvi) ⟨⟨rfl, ⟨_, rfl, .box rfl (lv_cons .fp (lv_cons .v (lv_cons .sl (lv_cons (.fn rfl (lv_cons (lvPr rfl) lv_nil) rfl lv_nil) (lv_cons .mp (lv_cons (lvRr rfl rfl) lv_nil))))))⟩, rfl⟩, ⟨rfl, ⟨_, rfl, .mp⟩, rfl⟩, ⟨rfl, ⟨_, rfl, .rowE rfl⟩, rfl⟩, ⟨rfl, ⟨_, rfl, .box rfl (lv_cons .sl (lv_cons (lvRr rfl rfl) lv_nil))⟩, rfl⟩, ⟨rfl, ⟨_, rfl, .rowE rfl⟩, rfl⟩, ⟨rfl, ⟨_, rfl, .box rfl (lv_cons (lvPr rfl) lv_nil)⟩, rfl⟩, ⟨rfl, ⟨_, rfl, .box rfl (lv_cons (.mp) lv_nil)⟩, rfl⟩, ⟨rfl, ⟨_, rfl, .mp⟩, rfl⟩, ⟨rfl, ⟨_, rfl, .box rfl (lv_cons (lvRr rfl rfl) lv_nil)⟩, rfl⟩, ⟨rfl, ⟨_, rfl, .rowE rfl⟩, rfl⟩, ⟨rfl, ⟨_, rfl, .box rfl (lv_cons (.fn rfl lv_nil rfl (lv_cons (lvPr rfl) (lv_cons (lvPr rfl) (lv_cons (lvPr rfl) (lv_cons (lvPr rfl) lv_nil))))) lv_nil)⟩, rfl⟩, trivial⟩ ⟨rfl, rfl, rfl, rfl, rfl, rfl, rfl, rfl, rfl, rfl, rfl, trivial⟩ (by kernel_rfl)) ?_
 ·repeat' (first | exact argsR_nil | refine argsR_cons ?_ ?_ | exact Lv.v | exact lvPr rfl)
 refine DL_c (asB rfl) ?_
 refine DL_nil (hK6 _ ?_)
 clear hK6; try clear K6
 refine D_seq fun K7 hK7 => ?_
 refine D_region ?_
 refine DL_c (op_ldB _ inferInstance rfl rfl (rfl : _ = some (AV.ref _ _ _))) ?_
 refine DL_c (op_callP inferInstance [((0, 9), (79, 0))] ?_ (sortG_spec u.length (by omega) (u.map fun (v : Nat) => (v : Int)) (by simp)) ⟨⟨rfl, ⟨_, rfl, .rowE rfl⟩, rfl⟩, trivial⟩ ⟨rfl, trivial⟩ (by kernel_rfl)) ?_
 ·repeat' (first | exact argsR_nil | refine argsR_cons ?_ ?_ | exact lvRr rfl rfl)
 refine DL_nil (hK7 _ ?_)
 clear hK7; try clear K7
 refine D_seq fun K8 hK8 => ?_
 refine D_region ?_
 refine DL_c (op_ldB _ inferInstance rfl rfl (rfl : _ = some (AV.ref _ _ _))) ?_
 refine DL_c (mvB rfl) ?_
 refine DL_c (asR rfl) ?_
 refine DL_c (asB rfl) ?_
 refine DL_nil (hK8 _ ?_)
 clear hK8; try clear K8
 refine D_ret ?_
 exact ret2 (.inr rfl) rfl (.tmp (rfl : _ = AV.ref _ _ _)) (.tmp (rfl : _ = AV.v (.bool _))) (Le.outI [((2, 8), (72, 0)), ((4, 8), (74, 0)), ((0, 8), (79, 0))] [] (.tup rfl (lv_cons (lvRr rfl hfl.symm) (lv_cons (lvB rfl) lv_nil))) rfl rfl rfl trivial ⟨⟨rfl, ⟨_, rfl, .box rfl (lv_cons .fp (lv_cons .v (lv_cons .sl (lv_cons (.fn rfl (lv_cons (lvPr rfl) lv_nil) rfl lv_nil) (lv_cons .mp (lv_cons (lvRr rfl rfl) lv_nil))))))⟩, rfl⟩, ⟨rfl, ⟨_, rfl, .mp⟩, rfl⟩, ⟨rfl, ⟨_, rfl, .rowE rfl⟩, rfl⟩, ⟨rfl, ⟨_, rfl, .box rfl (lv_cons .sl (lv_cons (lvRr rfl rfl) lv_nil))⟩, rfl⟩, ⟨rfl, ⟨_, rfl, .rowE rfl⟩, rfl⟩, ⟨rfl, ⟨_, rfl, .rowE hfs⟩, rfl⟩, trivial⟩ ⟨rfl, rfl, rfl, trivial⟩ rfl)
end Go.Proofs.Ytkbkmngbenohkaa

namespace Go.Proofs.Ytkbkmngbenohkaa
open Go.RowKit

abbrev SS6 (n : Nat) (P A : List Nat) (h : Nat) (sc : List Nat) (st : List Int) (ord : List Nat) : List (Oid × Cells) := SSL n P A h sc st ord ++ [((1, 0), .box 133 [.ptr (0, 9) 0])]
abbrev I6 : List Oid := [(0, 9), (1, 9), (2, 9), (3, 9), (4, 9), (1, 0)]
abbrev I7 : List Oid := [(0, 9), (1, 9), (2, 9), (3, 9), (4, 9), (1, 0), (20, 9)]
abbrev I78 : List Oid := [(0, 9), (1, 9), (2, 9), (3, 9), (4, 9), (1, 0), (0, 8)]
section
variable (f : FuncId) (C : Cbl Try.prog f) (n : Nat) (P A : List Nat) (h : Nat) (sc : List Nat) (st : List Int) (ord : List Nat) (xs ys : List PV) (m : Nat) (l : List Nat) (hm : l.length = m) (h1 : m ≤ 1000000) (p : Nat → Bool)
  (hp : ∀ x : Nat, Spec Try.prog f (inStI (.v (.int .i64 (x : Int)) :: [.ptr (1, 0) 0, .fp 0 xs, .fp 0 ys]) (SS6 n P A h sc st ord)) (outStI (.v (.bool (p x))) (SS6 n P A h sc st ord) I6 I6))
include C hm h1 hp
theorem idxO : Spec Try.prog 120 (inStI [.ref (20, 9) 0 m, .fn (.func f) [] [.ptr (1, 0) 0, .fp 0 xs, .fp 0 ys]] (SS6 n P A h sc st ord ++ [((20, 9), .row 3 1 (nsl l))]))
  (outStI (.v (.int .i64 (firstI (fun x => p x.toNat) (l.map fun (x : Nat) => (x : Int))))) (SS6 n P A h sc st ord ++ [((20, 9), .row 3 1 (nsl l))]) I7 I7) := by
 have hgn := getN l
 refine Spec.ofNI Try.func120 rfl Try.ntmps120 rfl ?_
 refine D_seq fun K1 hK1 => ?_
 refine D_region ?_
 refine DL_c (asI rfl) ?_
 refine DL_nil (hK1 _ ?_)
 clear hK1; try clear K1
 refine D_seq fun K2 hK2 => ?_
 refine D_seq fun K3 hK3 => ?_
 refine D_region ?_
 refine DL_c (mvR rfl) ?_
 refine DL_c (op_lenR _ inferInstance rfl rfl) ?_
 refine DL_c (mvI rfl) ?_
 refine DL_nil (hK3 _ ?_)
 clear hK3; try clear K3
 refine D_block ?_
 refine D_loopL (α := Nat) (fun i => i ≤ m ∧ ∀ j, j < i → p (l.getD j 0) = false) 19 [(0, _), (1, _), (7, _)] [((0, 9), _), ((1, 9), _), ((2, 9), _), ((3, 9), _), ((4, 9), _), ((1, 0), _), ((20, 9), _)] (fun i => [(8, .v (.int .i64 (i : Int)))]) (fun i => []) [(0, 9), (1, 9), (2, 9), (3, 9), (4, 9), (1, 0), (20, 9)] [(0, 9), (1, 9), (2, 9), (3, 9), (4, 9), (1, 0), (20, 9)] (fun i => m - i) 0 ?_ (by
  refine Le.mkJ [] [] rfl ?_ ?_ trivial ⟨rfl, rfl, rfl, rfl, rfl, rfl, rfl, trivial⟩ ?_
  ·exact ⟨(iR rfl), (iN rfl), (iV rfl), (lvI (by rfl)), trivial⟩
  ·exact ⟨(obE rfl rfl rfl), (obE rfl rfl rfl), (obE rfl rfl rfl), (obE rfl rfl rfl), (obE rfl rfl rfl), (obE rfl rfl rfl), (obE rfl rfl rfl), trivial⟩
  ·kernel_rfl) ?_
 ·exact ⟨by omega, fun j hj => by omega⟩
 intro i hi
 obtain ⟨hi, hno⟩ := hi
 refine D_seq fun K4 hK4 => ?_
 refine D_region ?_
 refine DL_c (op_lss _ _ rfl rfl rfl) ?_
 refine DL_nil (hK4 _ ?_)
 clear hK4; try clear K4
 refine D_seq fun K5 hK5 => ?_
 refine D_splitC rfl (fun hc9 => ?_) (fun hc9 => ?_)
 ·skip
  refine D_skip (hK5 _ ?_)
  clear hK5; try clear K5
  refine D_seq fun K6 hK6 => ?_
  refine D_block ?_
  refine D_seq fun K7 hK7 => ?_
  refine D_region ?_
  refine DL_c (mvI rfl) ?_
  refine DL_c (asI rfl) ?_
  refine DL_nil (hK7 _ ?_)
  clear hK7; try clear K7
  refine D_seq fun K8 hK8 => ?_
  refine D_region ?_
  refine DL_c (op_mv _ (rfl : _ = AV.fn _ _ _)) ?_
  refine DL_c (mvR rfl) ?_
  refine DL_c (mvI rfl) ?_
  refine DL_c (op_ixR _ _ inferInstance rfl rfl rfl _ rfl (by omega) (by exact (Nat.zero_add _).trans (Nat.mul_one _))) ?_
  refine DL_c (op_ldR _ inferInstance rfl rfl (by exact nsl_get _ _ (by omega)) rfl) ?_
  refine DL_c (op_callK0V rfl inferInstance _ _ (by repeat' (first | exact argsR_nil | refine argsR_cons ?_ ?_ | exact Lv.v | exact Lv.fp | exact lvPr rfl)) (hp (l.getD i 0)) ⟨rfl, rfl, rfl, rfl, rfl, rfl, trivial⟩ rfl (by kernel_rfl) (by simp)) ?_
  refine DL_nil (hK8 _ ?_)
  clear hK8; try clear K8
  refine D_splitC rfl (fun hc16 => ?_) (fun hc16 => ?_)
  ·skip
   refine D_seq fun K9 hK9 => ?_
   refine D_region ?_
   refine DL_c (mvI rfl) ?_
   refine DL_c (asI rfl) ?_
   refine DL_nil (hK9 _ ?_)
   clear hK9; try clear K9
   refine D_ret ?_
   exact ret1 (.inr rfl) rfl (.tmp (rfl : _ = AV.v (.int _ _))) (Le.outI [] [] (lvI (firstI_at (by simp; omega) (fun j hj => by rw [hgn]; exact hno j hj) (by rw [hgn]; exact hc16))) rfl rfl rfl trivial ⟨⟨rfl, ⟨_, rfl, lvO_id _⟩, rfl⟩, ⟨rfl, ⟨_, rfl, lvO_id _⟩, rfl⟩, ⟨rfl, ⟨_, rfl, lvO_id _⟩, rfl⟩, ⟨rfl, ⟨_, rfl, lvO_id _⟩, rfl⟩, ⟨rfl, ⟨_, rfl, lvO_id _⟩, rfl⟩, ⟨rfl, ⟨_, rfl, lvO_id _⟩, rfl⟩, ⟨rfl, ⟨_, rfl, lvO_id _⟩, rfl⟩, trivial⟩ ⟨rfl, rfl, rfl, rfl, rfl, rfl, rfl, trivial⟩ rfl)
  ·skip
   refine D_skip (hK6 _ ?_)
   clear hK6; try clear K6
   refine D_region ?_
   refine DL_c (op_add _ _ rfl rfl (i64w (by omega))) ?_
   refine DL_c (mvI rfl) ?_
   refine DL_nil ?_
   refine ⟨i + 1, ?_, ?_, ?_⟩
   ·exact ⟨by omega, all_succ hno hc16⟩
   ·skip
    refine Le.mkJ [] [] rfl ?_ ?_ trivial ⟨rfl, rfl, rfl, rfl, rfl, rfl, rfl, trivial⟩ ?_
    ·exact ⟨(iR rfl), (iN rfl), (iV rfl), (lvI (by rfl)), trivial⟩
    ·exact ⟨(obE rfl rfl rfl), (obE rfl rfl rfl), (obE rfl rfl rfl), (obE rfl rfl rfl), (obE rfl rfl rfl), (obE rfl rfl rfl), (obE rfl rfl rfl), trivial⟩
    ·kernel_rfl
   ·omega
 ·skip
  refine D_exit ?_
  refine id (hK2 _ ?_)
  clear hK2; try clear K2
  refine D_seq fun K10 hK10 => ?_
  refine D_region ?_
  refine DL_c (asI rfl) ?_
  refine DL_nil (hK10 _ ?_)
  clear hK10; try clear K10
  refine D_ret ?_
  exact ret1 (.inr rfl) rfl (.tmp (rfl : _ = AV.v (.int _ _))) (Le.outI [] [] (lvI (firstI_none fun j hj => by rw [hgn]; exact hno j (by simp at hj; omega))) rfl rfl rfl trivial ⟨⟨rfl, ⟨_, rfl, lvO_id _⟩, rfl⟩, ⟨rfl, ⟨_, rfl, lvO_id _⟩, rfl⟩, ⟨rfl, ⟨_, rfl, lvO_id _⟩, rfl⟩, ⟨rfl, ⟨_, rfl, lvO_id _⟩, rfl⟩, ⟨rfl, ⟨_, rfl, lvO_id _⟩, rfl⟩, ⟨rfl, ⟨_, rfl, lvO_id _⟩, rfl⟩, ⟨rfl, ⟨_, rfl, lvO_id _⟩, rfl⟩, trivial⟩ ⟨rfl, rfl, rfl, rfl, rfl, rfl, rfl, trivial⟩ rfl)
theorem delO_none (h0 : ∀ j, j < l.length → p (l.getD j 0) = false) : Spec Try.prog 130 (inStI [.ref (20, 9) 0 m, .fn (.func f) [] [.ptr (1, 0) 0, .fp 0 xs, .fp 0 ys]] (SS6 n P A h sc st ord ++ [((20, 9), .row 3 1 (nsl l))]))
  (outStI (.ref (0, 8) 0 m) (SS6 n P A h sc st ord ++ [((0, 8), .row 3 1 (nsl l))]) I78 I6) := by
 have hix := idxO f C n P A h sc st ord xs ys m l hm h1 p hp
 rw [firstI_none fun j hj => by rw [getN]; exact h0 j (by simpa using hj)] at hix
 refine Spec.ofNI Try.func130 rfl Try.ntmps130 rfl ?_
 refine D_seq fun K1 hK1 => ?_
 refine D_region ?_
 refine DL_c (op_as _ (rfl : _ = AV.v (.slice _ _ _))) ?_
 refine DL_nil (hK1 _ ?_)
 clear hK1; try clear K1
 refine D_seq fun K2 hK2 => ?_
 refine D_region ?_
 refine DL_c (mvR rfl) ?_
 refine DL_c (op_mv _ (rfl : _ = AV.fn _ _ _)) ?_
 refine DL_c (op_callK0 inferInstance _ _ (by repeat' (first | exact argsR_nil | refine argsR_cons ?_ ?_ | exact Lv.fp | exact lvRr rfl rfl | exact lvPr rfl | refine Lv.fn rfl ?_ rfl ?_ | exact lv_nil | refine lv_cons ?_ ?_)) (hix) ⟨rfl, rfl, rfl, rfl, rfl, rfl, rfl, trivial⟩ rfl (by kernel_rfl) (by simp)) ?_
 refine DL_c (asI rfl) ?_
 refine DL_nil (hK2 _ ?_)
 clear hK2; try clear K2
 refine D_seq fun K3 hK3 => ?_
 refine D_seq fun K4 hK4 => ?_
 refine D_region ?_
 refine DL_c (mvI rfl) ?_
 refine DL_c (op_eql _ _ rfl rfl rfl) ?_
 refine DL_nil (hK4 _ ?_)
 clear hK4; try clear K4
 refine D_splitC rfl (fun hc12 => ?_) (fun hc12 => ?_)
 ·skip
  refine D_seq fun K5 hK5 => ?_
  refine D_region ?_
  refine DL_c (mvR rfl) ?_
  refine DL_c (asR rfl) ?_
  refine DL_nil (hK5 _ ?_)
  clear hK5; try clear K5
  refine D_ret ?_
  exact ret1 (.inr rfl) rfl (.tmp (rfl : _ = AV.ref _ _ _)) (Le.outI [((0, 8), (20, 9))] [] (lvRr rfl rfl) rfl rfl rfl trivial ⟨⟨rfl, ⟨_, rfl, .box rfl (lv_cons .fp (lv_cons .v (lv_cons .sl (lv_cons (.fn rfl (lv_cons (lvPr rfl) lv_nil) rfl lv_nil) (lv_cons .mp (lv_cons (lvRr rfl rfl) lv_nil))))))⟩, rfl⟩, ⟨rfl, ⟨_, rfl, .mp⟩, rfl⟩, ⟨rfl, ⟨_, rfl, .rowE rfl⟩, rfl⟩, ⟨rfl, ⟨_, rfl, .box rfl (lv_cons .sl (lv_cons (lvRr rfl rfl) lv_nil))⟩, rfl⟩, ⟨rfl, ⟨_, rfl, .rowE rfl⟩, rfl⟩, ⟨rfl, ⟨_, rfl, .box rfl (lv_cons (lvPr rfl) lv_nil)⟩, rfl⟩, ⟨rfl, ⟨_, rfl, .rowE rfl⟩, rfl⟩, trivial⟩ ⟨rfl, rfl, rfl, rfl, rfl, rfl, trivial⟩ rfl)
 ·skip
  exact absurd  rfl hc12
set_option maxHeartbeats 1000000 in
theorem delO_some (i0 : Nat) (hi0 : i0 < l.length) (hno : ∀ j, j < i0 → p (l.getD j 0) = false) (hyes : p (l.getD i0 0) = true) :
  Spec Try.prog 130 (inStI [.ref (20, 9) 0 m, .fn (.func f) [] [.ptr (1, 0) 0, .fp 0 xs, .fp 0 ys]] (SS6 n P A h sc st ord ++ [((20, 9), .row 3 1 (nsl l))]))
  (outStI (.ref (0, 8) 0 (l.filter fun v => !p v).length) (SS6 n P A h sc st ord ++ [((0, 8), .row 3 1 (nsl (l.filter fun v => !p v)))]) I78 I6) := by
 have hix := idxO f C n P A h sc st ord xs ys m l hm h1 p hp
 rw [firstI_at (i := i0) (by simpa using hi0) (fun j hj => by rw [getN]; exact hno j hj) (by rw [getN]; exact hyes)] at hix
 have hf0 : flt p l (i0 + 1) = l.take i0 := by rw [flt_no hi0 hyes, flt_all hno (by omega)]
 have hd0 : dcl p l (i0 + 1) = l := by unfold dcl; rw [hf0, List.length_take, Nat.min_eq_left (by omega), List.take_append_drop]
 have hfl0 : (flt p l (i0 + 1)).length = i0 := by rw [hf0, List.length_take]; omega
 refine Spec.ofNI Try.func130 rfl Try.ntmps130 rfl ?_
 refine D_seq fun K1 hK1 => ?_
 refine D_region ?_
 refine DL_c (op_as _ (rfl : _ = AV.v (.slice _ _ _))) ?_
 refine DL_nil (hK1 _ ?_)
 clear hK1; try clear K1
 refine D_seq fun K2 hK2 => ?_
 refine D_region ?_
 refine DL_c (mvR rfl) ?_
 refine DL_c (op_mv _ (rfl : _ = AV.fn _ _ _)) ?_
 refine DL_c (op_callK0 inferInstance _ _ (by repeat' (first | exact argsR_nil | refine argsR_cons ?_ ?_ | exact Lv.fp | exact lvRr rfl rfl | exact lvPr rfl | refine Lv.fn rfl ?_ rfl ?_ | exact lv_nil | refine lv_cons ?_ ?_)) (hix) ⟨rfl, rfl, rfl, rfl, rfl, rfl, rfl, trivial⟩ rfl (by kernel_rfl) (by simp)) ?_
 refine DL_c (asI rfl) ?_
 refine DL_nil (hK2 _ ?_)
 clear hK2; try clear K2
 refine D_seq fun K3 hK3 => ?_
 refine D_seq fun K4 hK4 => ?_
 refine D_region ?_
 refine DL_c (mvI rfl) ?_
 refine DL_c (op_eql _ _ rfl rfl rfl) ?_
 refine DL_nil (hK4 _ ?_)
 clear hK4; try clear K4
 refine D_splitC rfl (fun hc12 => ?_) (fun hc12 => ?_)
 ·skip
  exact absurd  hc12 (by omega)
 ·skip
  refine D_skip (hK3 _ ?_)
  clear hK3; try clear K3
  refine D_seq fun K5 hK5 => ?_
  refine D_seq fun K6 hK6 => ?_
  refine D_region ?_
  refine DL_c (mvI rfl) ?_
  refine DL_c (op_add _ _ rfl rfl (i64w (by omega))) ?_
  refine DL_c (asI rfl) ?_
  refine DL_nil (hK6 _ ?_)
  clear hK6; try clear K6
  refine D_block ?_
  refine D_loopL (α := Nat) (fun k => i0 + 1 ≤ k ∧ k ≤ m ∧ (flt p l k).length + 1 ≤ k) 42 [(0, _), (1, _)] [((0, 9), _), ((1, 9), _), ((2, 9), _), ((3, 9), _), ((4, 9), _), ((1, 0), _)] (fun k => [(6, .v (.int .i64 (k : Int))), (5, .v (.int .i64 ((flt p l k).length : Int)))]) (fun k => [((20, 9), .row 3 1 (nsl (dcl p l k)))]) [(0, 9), (1, 9), (2, 9), (3, 9), (4, 9), (1, 0), (20, 9)] [(0, 9), (1, 9), (2, 9), (3, 9), (4, 9), (1, 0), (20, 9)] (fun k => m - k) (i0 + 1) ?_ (by
   refine Le.mkJ [] [] rfl ?_ ?_ trivial ⟨rfl, rfl, rfl, rfl, rfl, rfl, rfl, trivial⟩ ?_
   ·exact ⟨(iR rfl), (iN rfl), (lvI (by rfl)), (lvI (by omega)), trivial⟩
   ·exact ⟨(obE rfl rfl rfl), (obE rfl rfl rfl), (obE rfl rfl rfl), (obE rfl rfl rfl), (obE rfl rfl rfl), (obE rfl rfl rfl), (obR rfl rfl rfl (by rw [hd0])), trivial⟩
   ·kernel_rfl) ?_
  ·exact ⟨Nat.le_refl _, by omega, by omega⟩
  intro k hk
  obtain ⟨hk1, hk2, hk3⟩ := hk
  have hdg := dcl_get (p := p) (l := l) (k := k)
  have hfl := (flt_len p l k).1
  refine D_seq fun K7 hK7 => ?_
  refine D_seq fun K8 hK8 => ?_
  refine D_region ?_
  refine DL_c (mvI rfl) ?_
  refine DL_c (mvR rfl) ?_
  refine DL_c (op_lenR _ inferInstance rfl rfl) ?_
  refine DL_c (op_lss _ _ rfl rfl rfl) ?_
  refine DL_nil (hK8 _ ?_)
  clear hK8; try clear K8
  refine D_splitC rfl (fun hc19 => ?_) (fun hc19 => ?_)
  ·skip
   refine D_skip (hK7 _ ?_)
   clear hK7; try clear K7
   refine D_seq fun K9 hK9 => ?_
   refine D_block ?_
   refine D_seq fun K10 hK10 => ?_
   refine D_region ?_
   refine DL_c (mvR rfl) ?_
   refine DL_c (mvI rfl) ?_
   refine DL_c (op_ixR _ _ inferInstance rfl rfl rfl _ rfl (by omega) (by exact (Nat.zero_add _).trans (Nat.mul_one _))) ?_
   refine DL_c (op_ldR _ inferInstance rfl rfl (by exact (nsl_get _ _ (by rw [dcl_len]; omega)).trans (by rw [hdg])) rfl) ?_
   refine DL_c (asI rfl) ?_
   refine DL_nil (hK10 _ ?_)
   clear hK10; try clear K10
   refine D_seq fun K11 hK11 => ?_
   refine D_region ?_
   refine DL_c (op_mv _ (rfl : _ = AV.fn _ _ _)) ?_
   refine DL_c (mvI rfl) ?_
   refine DL_c (op_callK0V rfl inferInstance _ _ (by repeat' (first | exact argsR_nil | refine argsR_cons ?_ ?_ | exact Lv.v | exact Lv.fp | exact lvPr rfl)) (hp (l.getD k 0)) ⟨rfl, rfl, rfl, rfl, rfl, rfl, trivial⟩ rfl (by kernel_rfl) (by simp)) ?_
   refine DL_c (op_not _ rfl rfl) ?_
   refine DL_nil (hK11 _ ?_)
   clear hK11; try clear K11
   refine D_splitC rfl (fun hc29 => ?_) (fun hc29 => ?_)
   ·skip
    have hpk : p (l.getD k 0) = false := by simpa using hc29
    have hf1 := flt_yes (by omega) hpk
    have hd1 := dcl_yes (by omega) hpk
    refine D_seq fun K12 hK12 => ?_
    refine D_region ?_
    refine DL_c (mvR rfl) ?_
    refine DL_c (mvI rfl) ?_
    refine DL_c (mvI rfl) ?_
    refine DL_c (op_ixR _ _ inferInstance rfl rfl rfl (flt p l k).length rfl (by omega) (by exact (Nat.zero_add _).trans (Nat.mul_one _))) ?_
    refine DL_c (op_stR _ _ inferInstance rfl rfl rfl rfl rfl (by rw [nsl_len, dcl_len]; simp only [List.length_cons, List.length_nil]; omega) (nslN_put _ _ _ (by rw [dcl_len]; omega))) ?_
    refine DL_nil (hK12 _ ?_)
    clear hK12; try clear K12
    refine D_le (σ' := mkStI 42 [(0, _), (1, _), (5, _), (6, _)] [((0, 9), _), ((1, 9), _), ((2, 9), _), ((3, 9), _), ((4, 9), _), ((1, 0), _), ((20, 9), _)] [(0, 9), (1, 9), (2, 9), (3, 9), (4, 9), (1, 0), (20, 9)] [(0, 9), (1, 9), (2, 9), (3, 9), (4, 9), (1, 0), (20, 9)]) (by
     refine Le.mkJ [] [] rfl ?_ ?_ trivial ⟨rfl, rfl, rfl, rfl, rfl, rfl, rfl, trivial⟩ ?_
     ·exact ⟨(iR rfl), (iN rfl), (iV rfl), (iV rfl), trivial⟩
     ·exact ⟨(obE rfl rfl rfl), (obE rfl rfl rfl), (obE rfl rfl rfl), (obE rfl rfl rfl), (obE rfl rfl rfl), (obE rfl rfl rfl), (obE rfl rfl rfl), trivial⟩
     ·kernel_rfl) ?_
    refine D_region ?_
    refine DL_c (mvI rfl) ?_
    refine DL_c (op_add _ _ rfl rfl (i64w (by omega))) ?_
    refine DL_c (asI rfl) ?_
    refine DL_nil (hK9 _ ?_)
    clear hK9; try clear K9
    refine D_region ?_
    refine DL_c (mvI rfl) ?_
    refine DL_c (op_add _ _ rfl rfl (i64w (by omega))) ?_
    refine DL_c (asI rfl) ?_
    refine DL_nil ?_
    refine ⟨k + 1, ?_, ?_, ?_⟩
    ·exact ⟨by omega, by omega, by rw [hf1, List.length_append, List.length_cons, List.length_nil]; omega⟩
    ·skip
     refine Le.mkJ [] [] rfl ?_ ?_ trivial ⟨rfl, rfl, rfl, rfl, rfl, rfl, rfl, trivial⟩ ?_
     ·exact ⟨(iR rfl), (iN rfl), (lvI (by rfl)), (lvI (by ((rw [hf1, List.length_append, List.length_cons, List.length_nil]; omega)))), trivial⟩
     ·exact ⟨(obE rfl rfl rfl), (obE rfl rfl rfl), (obE rfl rfl rfl), (obE rfl rfl rfl), (obE rfl rfl rfl), (obE rfl rfl rfl), (obR rfl rfl rfl (by ((rw [hd1])))), trivial⟩
     ·kernel_rfl
    ·omega
   ·skip
    have hpk : p (l.getD k 0) = true := by simpa using hc29
    have hf1 := flt_no (by omega) hpk
    have hd1 := dcl_no (by omega) hpk
    refine D_skip (hK9 _ ?_)
    clear hK9; try clear K9
    refine D_region ?_
    refine DL_c (mvI rfl) ?_
    refine DL_c (op_add _ _ rfl rfl (i64w (by omega))) ?_
    refine DL_c (asI rfl) ?_
    refine DL_nil ?_
    refine ⟨k + 1, ?_, ?_, ?_⟩
    ·exact ⟨by omega, by omega, by rw [hf1]; omega⟩
    ·skip
     refine Le.mkJ [] [] rfl ?_ ?_ trivial ⟨rfl, rfl, rfl, rfl, rfl, rfl, rfl, trivial⟩ ?_
     ·exact ⟨(iR rfl), (iN rfl), (lvI (by rfl)), (lvI (by ((rw [hf1])))), trivial⟩
     ·exact ⟨(obE rfl rfl rfl), (obE rfl rfl rfl), (obE rfl rfl rfl), (obE rfl rfl rfl), (obE rfl rfl rfl), (obE rfl rfl rfl), (obR rfl rfl rfl (by ((rw [hd1])))), trivial⟩
     ·kernel_rfl
    ·omega
  ·skip
   have hkn : k = l.length := by omega
   have hff : flt p l k = l.filter fun v => !p v := by unfold flt; rw [hkn, List.take_length]
   obtain ⟨zs, hzs⟩ := clr_rowN (a := flt p l k) (b := l.drop (flt p l k).length) (k := (flt p l k).length) (n := m) rfl (by rw [List.length_drop]; omega)
   refine D_exit ?_
   refine id (hK5 _ ?_)
   clear hK5; try clear K5
   refine D_seq fun K13 hK13 => ?_
   refine D_region ?_
   refine DL_c (mvR rfl) ?_
   refine DL_c (mvI rfl) ?_
   refine DL_c (op_slR _ _ _ inferInstance rfl rfl (flt p l k).length _ (.lit rfl rfl) .dflt (by omega) (by omega) (by exact (Nat.zero_add _).trans (Nat.mul_one _)) rfl) ?_
   refine DL_c (op_clr _ inferInstance rfl rfl (by omega) (by (simp only [isl_len, bsl_len, psl_len, mrows_len, nsl_len, ws_len, List.length_map, ul_len, psl_len, isl_len, nrows_len, mmap_len, smap_len, dcl_len]; omega)) rfl) ?_
   refine DL_nil (hK13 _ ?_)
   clear hK13; try clear K13
   refine D_seq fun K14 hK14 => ?_
   refine D_region ?_
   refine DL_c (mvR rfl) ?_
   refine DL_c (mvI rfl) ?_
   refine DL_c (op_slR _ _ _ inferInstance rfl rfl 0 (flt p l k).length .dflt (.lit rfl rfl) (by omega) (by omega) rfl (Nat.sub_zero _)) ?_
   refine DL_c (asR rfl) ?_
   refine DL_nil (hK14 _ ?_)
   clear hK14; try clear K14
   refine D_ret ?_
   rw [← hff]
   exact ret1 (.inr rfl) rfl (.tmp (rfl : _ = AV.ref _ _ _)) (Le.outI [((0, 8), (20, 9))] [] (lvRr rfl (by omega)) rfl rfl rfl trivial ⟨⟨rfl, ⟨_, rfl, .box rfl (lv_cons .fp (lv_cons .v (lv_cons .sl (lv_cons (.fn rfl (lv_cons (lvPr rfl) lv_nil) rfl lv_nil) (lv_cons .mp (lv_cons (lvRr rfl rfl) lv_nil))))))⟩, rfl⟩, ⟨rfl, ⟨_, rfl, .mp⟩, rfl⟩, ⟨rfl, ⟨_, rfl, .rowE rfl⟩, rfl⟩, ⟨rfl, ⟨_, rfl, .box rfl (lv_cons .sl (lv_cons (lvRr rfl rfl) lv_nil))⟩, rfl⟩, ⟨rfl, ⟨_, rfl, .rowE rfl⟩, rfl⟩, ⟨rfl, ⟨_, rfl, .box rfl (lv_cons (lvPr rfl) lv_nil)⟩, rfl⟩, ⟨rfl, ⟨_, rfl, .row hzs⟩, rfl⟩, trivial⟩ ⟨rfl, rfl, rfl, rfl, rfl, rfl, trivial⟩ rfl)
theorem delO : Spec Try.prog 130 (inStI [.ref (20, 9) 0 m, .fn (.func f) [] [.ptr (1, 0) 0, .fp 0 xs, .fp 0 ys]] (SS6 n P A h sc st ord ++ [((20, 9), .row 3 1 (nsl l))]))
  (outStI (.ref (0, 8) 0 (l.filter fun v => !p v).length) (SS6 n P A h sc st ord ++ [((0, 8), .row 3 1 (nsl (l.filter fun v => !p v)))]) I78 I6) := by
 rcases first_case (fun j => p (l.getD j 0)) l.length with h2 | ⟨i, h2, h3, h4⟩
 ·rw [filter_none h2, hm]; exact delO_none f C n P A h sc st ord xs ys m l hm h1 p hp h2
 ·exact delO_some f C n P A h sc st ord xs ys m l hm h1 p hp i h2 h3 h4
end
section
variable (f : FuncId) (C : Cbl Try.prog f) (n : Nat) (P A : List Nat) (h : Nat) (sc : List Nat) (st : List Int) (ord : List Nat) (xs : List PV) (m : Nat) (l : List Nat) (hm : l.length = m) (h1 : m ≤ 1000000) (p : Nat → Bool)
  (hp : ∀ x : Nat, Spec Try.prog f (inStI (.v (.int .i64 (x : Int)) :: [.fp 0 xs, .ptr (1, 0) 0]) (SS6 n P A h sc st ord)) (outStI (.v (.bool (p x))) (SS6 n P A h sc st ord) I6 I6))
include C hm h1 hp
theorem idxC : Spec Try.prog 120 (inStI [.ref (20, 9) 0 m, .fn (.func f) [] [.fp 0 xs, .ptr (1, 0) 0]] (SS6 n P A h sc st ord ++ [((20, 9), .row 3 1 (nsl l))]))
  (outStI (.v (.int .i64 (firstI (fun x => p x.toNat) (l.map fun (x : Nat) => (x : Int))))) (SS6 n P A h sc st ord ++ [((20, 9), .row 3 1 (nsl l))]) I7 I7) := by
 have hgn := getN l
 refine Spec.ofNI Try.func120 rfl Try.ntmps120 rfl ?_
 refine D_seq fun K1 hK1 => ?_
 refine D_region ?_
 refine DL_c (asI rfl) ?_
 refine DL_nil (hK1 _ ?_)
 clear hK1; try clear K1
 refine D_seq fun K2 hK2 => ?_
 refine D_seq fun K3 hK3 => ?_
 refine D_region ?_
 refine DL_c (mvR rfl) ?_
 refine DL_c (op_lenR _ inferInstance rfl rfl) ?_
 refine DL_c (mvI rfl) ?_
 refine DL_nil (hK3 _ ?_)
 clear hK3; try clear K3
 refine D_block ?_
 refine D_loopL (α := Nat) (fun i => i ≤ m ∧ ∀ j, j < i → p (l.getD j 0) = false) 19 [(0, _), (1, _), (7, _)] [((0, 9), _), ((1, 9), _), ((2, 9), _), ((3, 9), _), ((4, 9), _), ((1, 0), _), ((20, 9), _)] (fun i => [(8, .v (.int .i64 (i : Int)))]) (fun i => []) [(0, 9), (1, 9), (2, 9), (3, 9), (4, 9), (1, 0), (20, 9)] [(0, 9), (1, 9), (2, 9), (3, 9), (4, 9), (1, 0), (20, 9)] (fun i => m - i) 0 ?_ (by
  refine Le.mkJ [] [] rfl ?_ ?_ trivial ⟨rfl, rfl, rfl, rfl, rfl, rfl, rfl, trivial⟩ ?_
  ·exact ⟨(iR rfl), (iN rfl), (iV rfl), (lvI (by rfl)), trivial⟩
  ·exact ⟨(obE rfl rfl rfl), (obE rfl rfl rfl), (obE rfl rfl rfl), (obE rfl rfl rfl), (obE rfl rfl rfl), (obE rfl rfl rfl), (obE rfl rfl rfl), trivial⟩
  ·kernel_rfl) ?_
 ·exact ⟨by omega, fun j hj => by omega⟩
 intro i hi
 obtain ⟨hi, hno⟩ := hi
 refine D_seq fun K4 hK4 => ?_
 refine D_region ?_
 refine DL_c (op_lss _ _ rfl rfl rfl) ?_
 refine DL_nil (hK4 _ ?_)
 clear hK4; try clear K4
 refine D_seq fun K5 hK5 => ?_
 refine D_splitC rfl (fun hc9 => ?_) (fun hc9 => ?_)
 ·skip
  refine D_skip (hK5 _ ?_)
  clear hK5; try clear K5
  refine D_seq fun K6 hK6 => ?_
  refine D_block ?_
  refine D_seq fun K7 hK7 => ?_
  refine D_region ?_
  refine DL_c (mvI rfl) ?_
  refine DL_c (asI rfl) ?_
  refine DL_nil (hK7 _ ?_)
  clear hK7; try clear K7
  refine D_seq fun K8 hK8 => ?_
  refine D_region ?_
  refine DL_c (op_mv _ (rfl : _ = AV.fn _ _ _)) ?_
  refine DL_c (mvR rfl) ?_
  refine DL_c (mvI rfl) ?_
  refine DL_c (op_ixR _ _ inferInstance rfl rfl rfl _ rfl (by omega) (by exact (Nat.zero_add _).trans (Nat.mul_one _))) ?_
  refine DL_c (op_ldR _ inferInstance rfl rfl (by exact nsl_get _ _ (by omega)) rfl) ?_
  refine DL_c (op_callK0V rfl inferInstance _ _ (by repeat' (first | exact argsR_nil | refine argsR_cons ?_ ?_ | exact Lv.v | exact Lv.fp | exact lvPr rfl)) (hp (l.getD i 0)) ⟨rfl, rfl, rfl, rfl, rfl, rfl, trivial⟩ rfl (by kernel_rfl) (by simp)) ?_
  refine DL_nil (hK8 _ ?_)
  clear hK8; try clear K8
  refine D_splitC rfl (fun hc16 => ?_) (fun hc16 => ?_)
  ·skip
   refine D_seq fun K9 hK9 => ?_
   refine D_region ?_
   refine DL_c (mvI rfl) ?_
   refine DL_c (asI rfl) ?_
   refine DL_nil (hK9 _ ?_)
   clear hK9; try clear K9
   refine D_ret ?_
   exact ret1 (.inr rfl) rfl (.tmp (rfl : _ = AV.v (.int _ _))) (Le.outI [] [] (lvI (firstI_at (by simp; omega) (fun j hj => by rw [hgn]; exact hno j hj) (by rw [hgn]; exact hc16))) rfl rfl rfl trivial ⟨⟨rfl, ⟨_, rfl, lvO_id _⟩, rfl⟩, ⟨rfl, ⟨_, rfl, lvO_id _⟩, rfl⟩, ⟨rfl, ⟨_, rfl, lvO_id _⟩, rfl⟩, ⟨rfl, ⟨_, rfl, lvO_id _⟩, rfl⟩, ⟨rfl, ⟨_, rfl, lvO_id _⟩, rfl⟩, ⟨rfl, ⟨_, rfl, lvO_id _⟩, rfl⟩, ⟨rfl, ⟨_, rfl, lvO_id _⟩, rfl⟩, trivial⟩ ⟨rfl, rfl, rfl, rfl, rfl, rfl, rfl, trivial⟩ rfl)
  ·skip
   refine D_skip (hK6 _ ?_)
   clear hK6; try clear K6
   refine D_region ?_
   refine DL_c (op_add _ _ rfl rfl (i64w (by omega))) ?_
   refine DL_c (mvI rfl) ?_
   refine DL_nil ?_
   refine ⟨i + 1, ?_, ?_, ?_⟩
   ·exact ⟨by omega, all_succ hno hc16⟩
   ·skip
    refine Le.mkJ [] [] rfl ?_ ?_ trivial ⟨rfl, rfl, rfl, rfl, rfl, rfl, rfl, trivial⟩ ?_
    ·exact ⟨(iR rfl), (iN rfl), (iV rfl), (lvI (by rfl)), trivial⟩
    ·exact ⟨(obE rfl rfl rfl), (obE rfl rfl rfl), (obE rfl rfl rfl), (obE rfl rfl rfl), (obE rfl rfl rfl), (obE rfl rfl rfl), (obE rfl rfl rfl), trivial⟩
    ·kernel_rfl
   ·omega
 ·skip
  refine D_exit ?_
  refine id (hK2 _ ?_)
  clear hK2; try clear K2
  refine D_seq fun K10 hK10 => ?_
  refine D_region ?_
  refine DL_c (asI rfl) ?_
  refine DL_nil (hK10 _ ?_)
  clear hK10; try clear K10
  refine D_ret ?_
  exact ret1 (.inr rfl) rfl (.tmp (rfl : _ = AV.v (.int _ _))) (Le.outI [] [] (lvI (firstI_none fun j hj => by rw [hgn]; exact hno j (by simp at hj; omega))) rfl rfl rfl trivial ⟨⟨rfl, ⟨_, rfl, lvO_id _⟩, rfl⟩, ⟨rfl, ⟨_, rfl, lvO_id _⟩, rfl⟩, ⟨rfl, ⟨_, rfl, lvO_id _⟩, rfl⟩, ⟨rfl, ⟨_, rfl, lvO_id _⟩, rfl⟩, ⟨rfl, ⟨_, rfl, lvO_id _⟩, rfl⟩, ⟨rfl, ⟨_, rfl, lvO_id _⟩, rfl⟩, ⟨rfl, ⟨_, rfl, lvO_id _⟩, rfl⟩, trivial⟩ ⟨rfl, rfl, rfl, rfl, rfl, rfl, rfl, trivial⟩ rfl)
theorem delC_none (h0 : ∀ j, j < l.length → p (l.getD j 0) = false) : Spec Try.prog 130 (inStI [.ref (20, 9) 0 m, .fn (.func f) [] [.fp 0 xs, .ptr (1, 0) 0]] (SS6 n P A h sc st ord ++ [((20, 9), .row 3 1 (nsl l))]))
  (outStI (.ref (0, 8) 0 m) (SS6 n P A h sc st ord ++ [((0, 8), .row 3 1 (nsl l))]) I78 I6) := by
 have hix := idxC f C n P A h sc st ord xs m l hm h1 p hp
 rw [firstI_none fun j hj => by rw [getN]; exact h0 j (by simpa using hj)] at hix
 refine Spec.ofNI Try.func130 rfl Try.ntmps130 rfl ?_
 refine D_seq fun K1 hK1 => ?_
 refine D_region ?_
 refine DL_c (op_as _ (rfl : _ = AV.v (.slice _ _ _))) ?_
 refine DL_nil (hK1 _ ?_)
 clear hK1; try clear K1
 refine D_seq fun K2 hK2 => ?_
 refine D_region ?_
 refine DL_c (mvR rfl) ?_
 refine DL_c (op_mv _ (rfl : _ = AV.fn _ _ _)) ?_
 refine DL_c (op_callK0 inferInstance _ _ (by repeat' (first | exact argsR_nil | refine argsR_cons ?_ ?_ | exact Lv.fp | exact lvRr rfl rfl | exact lvPr rfl | refine Lv.fn rfl ?_ rfl ?_ | exact lv_nil | refine lv_cons ?_ ?_)) (hix) ⟨rfl, rfl, rfl, rfl, rfl, rfl, rfl, trivial⟩ rfl (by kernel_rfl) (by simp)) ?_
 refine DL_c (asI rfl) ?_
 refine DL_nil (hK2 _ ?_)
 clear hK2; try clear K2
 refine D_seq fun K3 hK3 => ?_
 refine D_seq fun K4 hK4 => ?_
 refine D_region ?_
 refine DL_c (mvI rfl) ?_
 refine DL_c (op_eql _ _ rfl rfl rfl) ?_
 refine DL_nil (hK4 _ ?_)
 clear hK4; try clear K4
 refine D_splitC rfl (fun hc12 => ?_) (fun hc12 => ?_)
 ·skip
  refine D_seq fun K5 hK5 => ?_
  refine D_region ?_
  refine DL_c (mvR rfl) ?_
  refine DL_c (asR rfl) ?_
  refine DL_nil (hK5 _ ?_)
  clear hK5; try clear K5
  refine D_ret ?_
  exact ret1 (.inr rfl) rfl (.tmp (rfl : _ = AV.ref _ _ _)) (Le.outI [((0, 8), (20, 9))] [] (lvRr rfl rfl) rfl rfl rfl trivial ⟨⟨rfl, ⟨_, rfl, .box rfl (lv_cons .fp (lv_cons .v (lv_cons .sl (lv_cons (.fn rfl (lv_cons (lvPr rfl) lv_nil) rfl lv_nil) (lv_cons .mp (lv_cons (lvRr rfl rfl) lv_nil))))))⟩, rfl⟩, ⟨rfl, ⟨_, rfl, .mp⟩, rfl⟩, ⟨rfl, ⟨_, rfl, .rowE rfl⟩, rfl⟩, ⟨rfl, ⟨_, rfl, .box rfl (lv_cons .sl (lv_cons (lvRr rfl rfl) lv_nil))⟩, rfl⟩, ⟨rfl, ⟨_, rfl, .rowE rfl⟩, rfl⟩, ⟨rfl, ⟨_, rfl, .box rfl (lv_cons (lvPr rfl) lv_nil)⟩, rfl⟩, ⟨rfl, ⟨_, rfl, .rowE rfl⟩, rfl⟩, trivial⟩ ⟨rfl, rfl, rfl, rfl, rfl, rfl, trivial⟩ rfl)
 ·skip
  exact absurd  rfl hc12
set_option maxHeartbeats 1000000 in
theorem delC_some (i0 : Nat) (hi0 : i0 < l.length) (hno : ∀ j, j < i0 → p (l.getD j 0) = false) (hyes : p (l.getD i0 0) = true) :
  Spec Try.prog 130 (inStI [.ref (20, 9) 0 m, .fn (.func f) [] [.fp 0 xs, .ptr (1, 0) 0]] (SS6 n P A h sc st ord ++ [((20, 9), .row 3 1 (nsl l))]))
  (outStI (.ref (0, 8) 0 (l.filter fun v => !p v).length) (SS6 n P A h sc st ord ++ [((0, 8), .row 3 1 (nsl (l.filter fun v => !p v)))]) I78 I6) := by
 have hix := idxC f C n P A h sc st ord xs m l hm h1 p hp
 rw [firstI_at (i := i0) (by simpa using hi0) (fun j hj => by rw [getN]; exact hno j hj) (by rw [getN]; exact hyes)] at hix
 have hf0 : flt p l (i0 + 1) = l.take i0 := by rw [flt_no hi0 hyes, flt_all hno (by omega)]
 have hd0 : dcl p l (i0 + 1) = l := by unfold dcl; rw [hf0, List.length_take, Nat.min_eq_left (by omega), List.take_append_drop]
 have hfl0 : (flt p l (i0 + 1)).length = i0 := by rw [hf0, List.length_take]; omega
 refine Spec.ofNI Try.func130 rfl Try.ntmps130 rfl ?_
 refine D_seq fun K1 hK1 => ?_
 refine D_region ?_
 refine DL_c (op_as _ (rfl : _ = AV.v (.slice _ _ _))) ?_
 refine DL_nil (hK1 _ ?_)
 clear hK1; try clear K1
 refine D_seq fun K2 hK2 => ?_
 refine D_region ?_
 refine DL_c (mvR rfl) ?_
 refine DL_c (op_mv _ (rfl : _ = AV.fn _ _ _)) ?_
 refine DL_c (op_callK0 inferInstance _ _ (by repeat' (first | exact argsR_nil | refine argsR_cons ?_ ?_ | exact Lv.fp | exact lvRr rfl rfl | exact lvPr rfl | refine Lv.fn rfl ?_ rfl ?_ | exact lv_nil | refine lv_cons ?_ ?_)) (hix) ⟨rfl, rfl, rfl, rfl, rfl, rfl, rfl, trivial⟩ rfl (by kernel_rfl) (by simp)) ?_
 refine DL_c (asI rfl) ?_
 refine DL_nil (hK2 _ ?_)
 clear hK2; try clear K2
 refine D_seq fun K3 hK3 => ?_
 refine D_seq fun K4 hK4 => ?_
 refine D_region ?_
 refine DL_c (mvI rfl) ?_
 refine DL_c (op_eql _ _ rfl rfl rfl) ?_
 refine DL_nil (hK4 _ ?_)
 clear hK4; try clear K4
 refine D_splitC rfl (fun hc12 => ?_) (fun hc12 => ?_)
 ·skip
  exact absurd  hc12 (by omega)
 ·skip
  refine D_skip (hK3 _ ?_)
  clear hK3; try clear K3
  refine D_seq fun K5 hK5 => ?_
  refine D_seq fun K6 hK6 => ?_
  refine D_region ?_
  refine DL_c (mvI rfl) ?_
  refine DL_c (op_add _ _ rfl rfl (i64w (by omega))) ?_
  refine DL_c (asI rfl) ?_
  refine DL_nil (hK6 _ ?_)
  clear hK6; try clear K6
  refine D_block ?_
  refine D_loopL (α := Nat) (fun k => i0 + 1 ≤ k ∧ k ≤ m ∧ (flt p l k).length + 1 ≤ k) 42 [(0, _), (1, _)] [((0, 9), _), ((1, 9), _), ((2, 9), _), ((3, 9), _), ((4, 9), _), ((1, 0), _)] (fun k => [(6, .v (.int .i64 (k : Int))), (5, .v (.int .i64 ((flt p l k).length : Int)))]) (fun k => [((20, 9), .row 3 1 (nsl (dcl p l k)))]) [(0, 9), (1, 9), (2, 9), (3, 9), (4, 9), (1, 0), (20, 9)] [(0, 9), (1, 9), (2, 9), (3, 9), (4, 9), (1, 0), (20, 9)] (fun k => m - k) (i0 + 1) ?_ (by
   refine Le.mkJ [] [] rfl ?_ ?_ trivial ⟨rfl, rfl, rfl, rfl, rfl, rfl, rfl, trivial⟩ ?_
   ·exact ⟨(iR rfl), (iN rfl), (lvI (by rfl)), (lvI (by omega)), trivial⟩
   ·exact ⟨(obE rfl rfl rfl), (obE rfl rfl rfl), (obE rfl rfl rfl), (obE rfl rfl rfl), (obE rfl rfl rfl), (obE rfl rfl rfl), (obR rfl rfl rfl (by rw [hd0])), trivial⟩
   ·kernel_rfl) ?_
  ·exact ⟨Nat.le_refl _, by omega, by omega⟩
  intro k hk
  obtain ⟨hk1, hk2, hk3⟩ := hk
  have hdg := dcl_get (p := p) (l := l) (k := k)
  have hfl := (flt_len p l k).1
  refine D_seq fun K7 hK7 => ?_
  refine D_seq fun K8 hK8 => ?_
  refine D_region ?_
  refine DL_c (mvI rfl) ?_
  refine DL_c (mvR rfl) ?_
  refine DL_c (op_lenR _ inferInstance rfl rfl) ?_
  refine DL_c (op_lss _ _ rfl rfl rfl) ?_
  refine DL_nil (hK8 _ ?_)
  clear hK8; try clear K8
  refine D_splitC rfl (fun hc19 => ?_) (fun hc19 => ?_)
  ·skip
   refine D_skip (hK7 _ ?_)
   clear hK7; try clear K7
   refine D_seq fun K9 hK9 => ?_
   refine D_block ?_
   refine D_seq fun K10 hK10 => ?_
   refine D_region ?_
   refine DL_c (mvR rfl) ?_
   refine DL_c (mvI rfl) ?_
   refine DL_c (op_ixR _ _ inferInstance rfl rfl rfl _ rfl (by omega) (by exact (Nat.zero_add _).trans (Nat.mul_one _))) ?_
   refine DL_c (op_ldR _ inferInstance rfl rfl (by exact (nsl_get _ _ (by rw [dcl_len]; omega)).trans (by rw [hdg])) rfl) ?_
   refine DL_c (asI rfl) ?_
   refine DL_nil (hK10 _ ?_)
   clear hK10; try clear K10
   refine D_seq fun K11 hK11 => ?_
   refine D_region ?_
   refine DL_c (op_mv _ (rfl : _ = AV.fn _ _ _)) ?_
   refine DL_c (mvI rfl) ?_
   refine DL_c (op_callK0V rfl inferInstance _ _ (by repeat' (first | exact argsR_nil | refine argsR_cons ?_ ?_ | exact Lv.v | exact Lv.fp | exact lvPr rfl)) (hp (l.getD k 0)) ⟨rfl, rfl, rfl, rfl, rfl, rfl, trivial⟩ rfl (by kernel_rfl) (by simp)) ?_
   refine DL_c (op_not _ rfl rfl) ?_
   refine DL_nil (hK11 _ ?_)
   clear hK11; try clear K11
   refine D_splitC rfl (fun hc29 => ?_) (fun hc29 => ?_)
   ·skip
    have hpk : p (l.getD k 0) = false := by simpa using hc29
    have hf1 := flt_yes (by omega) hpk
    have hd1 := dcl_yes (by omega) hpk
    refine D_seq fun K12 hK12 => ?_
    refine D_region ?_
    refine DL_c (mvR rfl) ?_
    refine DL_c (mvI rfl) ?_
    refine DL_c (mvI rfl) ?_
    refine DL_c (op_ixR _ _ inferInstance rfl rfl rfl (flt p l k).length rfl (by omega) (by exact (Nat.zero_add _).trans (Nat.mul_one _))) ?_
    refine DL_c (op_stR _ _ inferInstance rfl rfl rfl rfl rfl (by rw [nsl_len, dcl_len]; simp only [List.length_cons, List.length_nil]; omega) (nslN_put _ _ _ (by rw [dcl_len]; omega))) ?_
    refine DL_nil (hK12 _ ?_)
    clear hK12; try clear K12
    refine D_le (σ' := mkStI 42 [(0, _), (1, _), (5, _), (6, _)] [((0, 9), _), ((1, 9), _), ((2, 9), _), ((3, 9), _), ((4, 9), _), ((1, 0), _), ((20, 9), _)] [(0, 9), (1, 9), (2, 9), (3, 9), (4, 9), (1, 0), (20, 9)] [(0, 9), (1, 9), (2, 9), (3, 9), (4, 9), (1, 0), (20, 9)]) (by
     refine Le.mkJ [] [] rfl ?_ ?_ trivial ⟨rfl, rfl, rfl, rfl, rfl, rfl, rfl, trivial⟩ ?_
     ·exact ⟨(iR rfl), (iN rfl), (iV rfl), (iV rfl), trivial⟩
     ·exact ⟨(obE rfl rfl rfl), (obE rfl rfl rfl), (obE rfl rfl rfl), (obE rfl rfl rfl), (obE rfl rfl rfl), (obE rfl rfl rfl), (obE rfl rfl rfl), trivial⟩
     ·kernel_rfl) ?_
    refine D_region ?_
    refine DL_c (mvI rfl) ?_
    refine DL_c (op_add _ _ rfl rfl (i64w (by omega))) ?_
    refine DL_c (asI rfl) ?_
    refine DL_nil (hK9 _ ?_)
    clear hK9; try clear K9
    refine D_region ?_
    refine DL_c (mvI rfl) ?_
    refine DL_c (op_add _ _ rfl rfl (i64w (by omega))) ?_
    refine DL_c (asI rfl) ?_
    refine DL_nil ?_
    refine ⟨k + 1, ?_, ?_, ?_⟩
    ·exact ⟨by omega, by omega, by rw [hf1, List.length_append, List.length_cons, List.length_nil]; omega⟩
    ·skip
     refine Le.mkJ [] [] rfl ?_ ?_ trivial ⟨rfl, rfl, rfl, rfl, rfl, rfl, rfl, trivial⟩ ?_
     ·exact ⟨(iR rfl), (iN rfl), (lvI (by rfl)), (lvI (by ((rw [hf1, List.length_append, List.length_cons, List.length_nil]; omega)))), trivial⟩
     ·exact ⟨(obE rfl rfl rfl), (obE rfl rfl rfl), (obE rfl rfl rfl), (obE rfl rfl rfl), (obE rfl rfl rfl), (obE rfl rfl rfl), (obR rfl rfl rfl (by ((rw [hd1])))), trivial⟩
     ·kernel_rfl
    ·omega
   ·skip
    have hpk : p (l.getD k 0) = true := by simpa using hc29
    have hf1 := flt_no (by omega) hpk
    have hd1 := dcl_no (by omega) hpk
    refine D_skip (hK9 _ ?_)
    clear hK9; try clear K9
    refine D_region ?_
    refine DL_c (mvI rfl) ?_
    refine DL_c (op_add _ _ rfl rfl (i64w (by omega))) ?_
    refine DL_c (asI rfl) ?_
    refine DL_nil ?_
    refine ⟨k + 1, ?_, ?_, ?_⟩
    ·exact ⟨by omega, by omega, by rw [hf1]; omega⟩
    ·skip
     refine Le.mkJ [] [] rfl ?_ ?_ trivial ⟨rfl, rfl, rfl, rfl, rfl, rfl, rfl, trivial⟩ ?_
     ·exact ⟨(iR rfl), (iN rfl), (lvI (by rfl)), (lvI (by ((rw [hf1])))), trivial⟩
     ·exact ⟨(obE rfl rfl rfl), (obE rfl rfl rfl), (obE rfl rfl rfl), (obE rfl rfl rfl), (obE rfl rfl rfl), (obE rfl rfl rfl), (obR rfl rfl rfl (by ((rw [hd1])))), trivial⟩
     ·kernel_rfl
    ·omega
  ·skip
   have hkn : k = l.length := by omega
   have hff : flt p l k = l.filter fun v => !p v := by unfold flt; rw [hkn, List.take_length]
   obtain ⟨zs, hzs⟩ := clr_rowN (a := flt p l k) (b := l.drop (flt p l k).length) (k := (flt p l k).length) (n := m) rfl (by rw [List.length_drop]; omega)
   refine D_exit ?_
   refine id (hK5 _ ?_)
   clear hK5; try clear K5
   refine D_seq fun K13 hK13 => ?_
   refine D_region ?_
   refine DL_c (mvR rfl) ?_
   refine DL_c (mvI rfl) ?_
   refine DL_c (op_slR _ _ _ inferInstance rfl rfl (flt p l k).length _ (.lit rfl rfl) .dflt (by omega) (by omega) (by exact (Nat.zero_add _).trans (Nat.mul_one _)) rfl) ?_
   refine DL_c (op_clr _ inferInstance rfl rfl (by omega) (by (simp only [isl_len, bsl_len, psl_len, mrows_len, nsl_len, ws_len, List.length_map, ul_len, psl_len, isl_len, nrows_len, mmap_len, smap_len, dcl_len]; omega)) rfl) ?_
   refine DL_nil (hK13 _ ?_)
   clear hK13; try clear K13
   refine D_seq fun K14 hK14 => ?_
   refine D_region ?_
   refine DL_c (mvR rfl) ?_
   refine DL_c (mvI rfl) ?_
   refine DL_c (op_slR _ _ _ inferInstance rfl rfl 0 (flt p l k).length .dflt (.lit rfl rfl) (by omega) (by omega) rfl (Nat.sub_zero _)) ?_
   refine DL_c (asR rfl) ?_
   refine DL_nil (hK14 _ ?_)
   clear hK14; try clear K14
   refine D_ret ?_
   rw [← hff]
   exact ret1 (.inr rfl) rfl (.tmp (rfl : _ = AV.ref _ _ _)) (Le.outI [((0, 8), (20, 9))] [] (lvRr rfl (by omega)) rfl rfl rfl trivial ⟨⟨rfl, ⟨_, rfl, .box rfl (lv_cons .fp (lv_cons .v (lv_cons .sl (lv_cons (.fn rfl (lv_cons (lvPr rfl) lv_nil) rfl lv_nil) (lv_cons .mp (lv_cons (lvRr rfl rfl) lv_nil))))))⟩, rfl⟩, ⟨rfl, ⟨_, rfl, .mp⟩, rfl⟩, ⟨rfl, ⟨_, rfl, .rowE rfl⟩, rfl⟩, ⟨rfl, ⟨_, rfl, .box rfl (lv_cons .sl (lv_cons (lvRr rfl rfl) lv_nil))⟩, rfl⟩, ⟨rfl, ⟨_, rfl, .rowE rfl⟩, rfl⟩, ⟨rfl, ⟨_, rfl, .box rfl (lv_cons (lvPr rfl) lv_nil)⟩, rfl⟩, ⟨rfl, ⟨_, rfl, .row hzs⟩, rfl⟩, trivial⟩ ⟨rfl, rfl, rfl, rfl, rfl, rfl, trivial⟩ rfl)
theorem delC : Spec Try.prog 130 (inStI [.ref (20, 9) 0 m, .fn (.func f) [] [.fp 0 xs, .ptr (1, 0) 0]] (SS6 n P A h sc st ord ++ [((20, 9), .row 3 1 (nsl l))]))
  (outStI (.ref (0, 8) 0 (l.filter fun v => !p v).length) (SS6 n P A h sc st ord ++ [((0, 8), .row 3 1 (nsl (l.filter fun v => !p v)))]) I78 I6) := by
 rcases first_case (fun j => p (l.getD j 0)) l.length with h2 | ⟨i, h2, h3, h4⟩
 ·rw [filter_none h2, hm]; exact delC_none f C n P A h sc st ord xs m l hm h1 p hp h2
 ·exact delC_some f C n P A h sc st ord xs m l hm h1 p hp i h2 h3 h4
end
end Go.Proofs.Ytkbkmngbenohkaa

namespace Go.Proofs.Ytkbkmngbenohkaa
open Go.RowKit

theorem opK_known (n : Nat) (P A : List Nat) (hA : A.length = n) (hn : n ≤ 64) (hw : ∀ v, A.getD v 0 < 18446744073709551616) (h : Nat) (sc : List Nat) (st : List Int) (ord : List Nat) (xs ys : List PV) (v : Nat) (hv : v ∈ ord) :
  Spec Try.prog 126 (inStI [.v (.int .i64 (v : Int)), .ptr (1, 0) 0, .fp 0 xs, .fp 0 ys] (SS6 n P A h sc st ord)) (outStI (.v (.bool true)) (SS6 n P A h sc st ord) I6 I6) := by
 have hm := mmap_some (st := st) hv
 refine Spec.ofNI Try.func126 rfl Try.ntmps126 rfl ?_
 refine D_seq fun K1 hK1 => ?_
 refine D_region ?_
 refine DL_c (op_box (4, 0) _ rfl rfl) ?_
 refine DL_c (asB rfl) ?_
 refine DL_nil (hK1 _ ?_)
 clear hK1; try clear K1
 refine D_seq fun K2 hK2 => ?_
 refine D_seq fun K3 hK3 => ?_
 refine D_anyL 11 [9, 10, 11, 12, 13, 14, 8, 15, 16, 6, 7] [] (by kernel_rfl) (by kernel_rfl) rfl (nodupO_iff rfl) (rfl : _ = [_, _, _, _, _, _, _, _, _, _, _]) (rfl : _ = []) ?_
 refine any_c (_, []) (fun τ => op_ldB _ inferInstance rfl rfl (rfl : _ = some (AV.ptr _ _))) ?_
 refine any_n (rfl : _ = [_]) ?_
 refine any_c (_, []) (fun τ => op_nilp _ rfl rfl) ?_
 refine any_n (rfl : _ = [_, _]) ?_
 refine any_c (_, []) (fun τ => op_fldP _ inferInstance rfl rfl rfl) ?_
 refine any_n (rfl : _ = [_, _, _]) ?_
 refine any_c (_, []) (fun τ => op_ldB _ inferInstance rfl rfl (rfl : _ = some (AV.mp _))) ?_
 refine any_n (rfl : _ = [_, _, _, _]) ?_
 refine any_c (_, []) (fun τ => op_ldB _ inferInstance rfl rfl (rfl : _ = some (AV.v (.int _ _)))) ?_
 refine any_n (rfl : _ = [_, _, _, _, _]) ?_
 refine any_c (_, []) (fun τ => op_lookM _ _ Try.underlying134 Try.underlying3 Try.zeroValue3 rfl rfl rfl hm) ?_
 refine any_n (rfl : _ = [_, _, _, _, _, _]) ?_
 refine any_c (_, []) (fun τ => op_mv _ (rfl : _ = AV.tup _)) ?_
 refine any_n (rfl : _ = [_, _, _, _, _, _, _]) ?_
 refine any_c (_, []) (fun τ => op_ext _ rfl (rfl : _ = some (AV.v (.int _ _)))) ?_
 refine any_n (rfl : _ = [_, _, _, _, _, _, _, _]) ?_
 refine any_c (_, []) (fun τ => op_ext _ rfl (rfl : _ = some (AV.v (.bool _)))) ?_
 refine any_n (rfl : _ = [_, _, _, _, _, _, _, _, _]) ?_
 refine any_c (_, []) (fun τ => op_as _ (rfl : _ = AV.v (.int _ _))) ?_
 refine any_n (rfl : _ = [_, _, _, _, _, _, _, _, _, _]) ?_
 refine any_c (_, []) (fun τ => op_as _ (rfl : _ = AV.v (.bool _))) ?_
 refine any_n (rfl : _ = [_, _, _, _, _, _, _, _, _, _, _]) ?_
 refine any_end ⟨rfl, ?_⟩
 refine DL_nil (hK3 _ ?_)
 clear hK3; try clear K3
 refine D_seq fun K4 hK4 => ?_
 refine D_region ?_
 refine DL_c (mvB rfl) ?_
 refine DL_nil (hK4 _ ?_)
 clear hK4; try clear K4
 refine D_cT rfl rfl ?_
 refine D_seq fun K5 hK5 => ?_
 refine D_region ?_
 refine DL_c (asB rfl) ?_
 refine DL_nil (hK5 _ ?_)
 clear hK5; try clear K5
 refine D_ret ?_
 exact ret1 (.inr rfl) rfl (.tmp (rfl : _ = AV.v (.bool _))) (Le.outI [] [] (lvB (by rfl)) rfl rfl rfl trivial ⟨⟨rfl, ⟨_, rfl, lvO_id _⟩, rfl⟩, ⟨rfl, ⟨_, rfl, lvO_id _⟩, rfl⟩, ⟨rfl, ⟨_, rfl, lvO_id _⟩, rfl⟩, ⟨rfl, ⟨_, rfl, lvO_id _⟩, rfl⟩, ⟨rfl, ⟨_, rfl, lvO_id _⟩, rfl⟩, ⟨rfl, ⟨_, rfl, lvO_id _⟩, rfl⟩, trivial⟩ ⟨rfl, rfl, rfl, rfl, rfl, rfl, trivial⟩ rfl)
theorem opK_new (n : Nat) (P A : List Nat) (hA : A.length = n) (hn : n ≤ 64) (hw : ∀ v, A.getD v 0 < 18446744073709551616) (h : Nat) (sc : List Nat) (st : List Int) (ord : List Nat) (v : Nat) (hv : v ∉ ord) :
  Spec Try.prog 126 (inStI [.v (.int .i64 (v : Int)), .ptr (1, 0) 0, .fp 0 [.sl (tst n ord st 0).length (nsl (tst n ord st 0))], .fp 0 [.sl (tst n ord st 1).length (nsl (tst n ord st 1))]] (SS6 n P A h sc st ord))
   (outStI (.v (.bool ((tst n ord st 0).any (fun g => anR n A v g) || (tst n ord st 1).any fun b => decide (b ≠ h) && anR n A b v))) (SS6 n P A h sc st ord) I6 I6) := by
 have hm := mmap_none (st := st) hv
 have hG := tst_len n ord st 0
 have hB := tst_len n ord st 1
 have h1 := fun g => open1_spec n P A hA hn hw h sc g v
 have h2 := fun b => open2_spec n P A hA hn hw h sc b v
 generalize tst n ord st 0 = G at hG ⊢
 generalize tst n ord st 1 = B at hB ⊢
 refine Spec.ofNI Try.func126 rfl Try.ntmps126 rfl ?_
 refine D_seq fun K1 hK1 => ?_
 refine D_region ?_
 refine DL_c (op_box (4, 0) _ rfl rfl) ?_
 refine DL_c (asB rfl) ?_
 refine DL_nil (hK1 _ ?_)
 clear hK1; try clear K1
 refine D_seq fun K2 hK2 => ?_
 refine D_seq fun K3 hK3 => ?_
 refine D_anyL 11 [9, 10, 11, 12, 13, 14, 8, 15, 16, 6, 7] [] (by kernel_rfl) (by kernel_rfl) rfl (nodupO_iff rfl) (rfl : _ = [_, _, _, _, _, _, _, _, _, _, _]) (rfl : _ = []) ?_
 refine any_c (_, []) (fun τ => op_ldB _ inferInstance rfl rfl (rfl : _ = some (AV.ptr _ _))) ?_
 refine any_n (rfl : _ = [_]) ?_
 refine any_c (_, []) (fun τ => op_nilp _ rfl rfl) ?_
 refine any_n (rfl : _ = [_, _]) ?_
 refine any_c (_, []) (fun τ => op_fldP _ inferInstance rfl rfl rfl) ?_
 refine any_n (rfl : _ = [_, _, _]) ?_
 refine any_c (_, []) (fun τ => op_ldB _ inferInstance rfl rfl (rfl : _ = some (AV.mp _))) ?_
 refine any_n (rfl : _ = [_, _, _, _]) ?_
 refine any_c (_, []) (fun τ => op_ldB _ inferInstance rfl rfl (rfl : _ = some (AV.v (.int _ _)))) ?_
 refine any_n (rfl : _ = [_, _, _, _, _]) ?_
 refine any_c (_, []) (fun τ => op_lookM _ _ Try.underlying134 Try.underlying3 Try.zeroValue3 rfl rfl rfl hm) ?_
 refine any_n (rfl : _ = [_, _, _, _, _, _]) ?_
 refine any_c (_, []) (fun τ => op_mv _ (rfl : _ = AV.tup _)) ?_
 refine any_n (rfl : _ = [_, _, _, _, _, _, _]) ?_
 refine any_c (_, []) (fun τ => op_ext _ rfl (rfl : _ = some (AV.v (.int _ _)))) ?_
 refine any_n (rfl : _ = [_, _, _, _, _, _, _, _]) ?_
 refine any_c (_, []) (fun τ => op_ext _ rfl (rfl : _ = some (AV.v (.bool _)))) ?_
 refine any_n (rfl : _ = [_, _, _, _, _, _, _, _, _]) ?_
 refine any_c (_, []) (fun τ => op_as _ (rfl : _ = AV.v (.int _ _))) ?_
 refine any_n (rfl : _ = [_, _, _, _, _, _, _, _, _, _]) ?_
 refine any_c (_, []) (fun τ => op_as _ (rfl : _ = AV.v (.bool _))) ?_
 refine any_n (rfl : _ = [_, _, _, _, _, _, _, _, _, _, _]) ?_
 refine any_end ⟨rfl, ?_⟩
 refine DL_nil (hK3 _ ?_)
 clear hK3; try clear K3
 refine D_seq fun K4 hK4 => ?_
 refine D_region ?_
 refine DL_c (mvB rfl) ?_
 refine DL_nil (hK4 _ ?_)
 clear hK4; try clear K4
 refine D_cF rfl rfl ?_
 refine D_skip (hK2 _ ?_)
 clear hK2; try clear K2
 refine D_seq fun K5 hK5 => ?_
 refine D_region ?_
 refine DL_c (op_ldF _ inferInstance rfl (rfl : _ = some (PV.sl G.length (nsl G))) rfl) ?_
 refine DL_c (op_mf _ _ (rfl : _ = []) (rfl : _ = [_, _])) ?_
 refine DL_c (op_callBD inferInstance (argsD_cons (.inl Lv.sl) (argsD_cons (argD (.fn rfl ln_nil rfl (ln_cons (.ptr rfl (Nat.le_refl _) (ln_cons (lnS rfl) ln_nil)) (ln_cons (.ptr rfl (Nat.le_refl _) (ln_cons (.v rfl) ln_nil)) ln_nil))) rfl) argsD_nil)) (containsN_spec 127 inferInstance [.fp 0 [.ptr 0 (sP n P A h sc)], .fp 0 [.v (.int .i64 (v : Int))]] rfl (fun _ => rfl) G.length G rfl (by omega) (fun g => anR n A v g) h1) rfl) ?_
 refine DL_c (mvB rfl) ?_
 refine DL_caseC (fun hg21 => ?_) (fun hg21 => ?_)
 ·skip
  refine DL_cn rfl rfl (by decide) ?_
  refine DL_cn rfl rfl (by decide) ?_
  refine DL_cn rfl rfl (by decide) ?_
  refine DL_c (op_pick _ _ _ rfl (rfl : _ = AV.v (.bool _))) ?_
  refine DL_c (asB rfl) ?_
  refine DL_nil (hK5 _ ?_)
  clear hK5; try clear K5
  refine D_ret ?_
  exact ret1 (.inr rfl) rfl (.tmp (rfl : _ = AV.v (.bool _))) (Le.outI [] [] (lvB (by rw [hg21, Bool.true_or])) rfl rfl rfl trivial ⟨⟨rfl, ⟨_, rfl, lvO_id _⟩, rfl⟩, ⟨rfl, ⟨_, rfl, lvO_id _⟩, rfl⟩, ⟨rfl, ⟨_, rfl, lvO_id _⟩, rfl⟩, ⟨rfl, ⟨_, rfl, lvO_id _⟩, rfl⟩, ⟨rfl, ⟨_, rfl, lvO_id _⟩, rfl⟩, ⟨rfl, ⟨_, rfl, lvO_id _⟩, rfl⟩, trivial⟩ ⟨rfl, rfl, rfl, rfl, rfl, rfl, trivial⟩ rfl)
 ·skip
  refine DL_cy rfl rfl (op_ldF _ inferInstance rfl (rfl : _ = some (PV.sl B.length (nsl B))) rfl) ?_
  refine DL_cy rfl rfl (op_mf _ _ (rfl : _ = []) (rfl : _ = [_, _])) ?_
  refine DL_cy rfl rfl (op_callBD inferInstance (argsD_cons (.inl Lv.sl) (argsD_cons (argD (.fn rfl ln_nil rfl (ln_cons (.ptr rfl (Nat.le_refl _) (ln_cons (lnS rfl) ln_nil)) (ln_cons (.ptr rfl (Nat.le_refl _) (ln_cons (.v rfl) ln_nil)) ln_nil))) rfl) argsD_nil)) (containsN_spec 129 inferInstance [.fp 0 [.ptr 0 (sP n P A h sc)], .fp 0 [.v (.int .i64 (v : Int))]] rfl (fun _ => rfl) B.length B rfl (by omega) (fun b => decide (b ≠ h) && anR n A b v) h2) rfl) ?_
  refine DL_c (op_pick _ _ _ rfl (rfl : _ = AV.v (.bool _))) ?_
  refine DL_c (asB rfl) ?_
  refine DL_nil (hK5 _ ?_)
  clear hK5; try clear K5
  refine D_ret ?_
  exact ret1 (.inr rfl) rfl (.tmp (rfl : _ = AV.v (.bool _))) (Le.outI [] [] (lvB (by rw [hg21, Bool.false_or])) rfl rfl rfl trivial ⟨⟨rfl, ⟨_, rfl, lvO_id _⟩, rfl⟩, ⟨rfl, ⟨_, rfl, lvO_id _⟩, rfl⟩, ⟨rfl, ⟨_, rfl, lvO_id _⟩, rfl⟩, ⟨rfl, ⟨_, rfl, lvO_id _⟩, rfl⟩, ⟨rfl, ⟨_, rfl, lvO_id _⟩, rfl⟩, ⟨rfl, ⟨_, rfl, lvO_id _⟩, rfl⟩, trivial⟩ ⟨rfl, rfl, rfl, rfl, rfl, rfl, trivial⟩ rfl)
theorem opK_spec (n : Nat) (P A : List Nat) (hA : A.length = n) (hn : n ≤ 64) (hw : ∀ v, A.getD v 0 < 18446744073709551616) (h : Nat) (sc : List Nat) (st : List Int) (ord : List Nat) (v : Nat) :
  Spec Try.prog 126 (inStI [.v (.int .i64 (v : Int)), .ptr (1, 0) 0, .fp 0 [.sl (tst n ord st 0).length (nsl (tst n ord st 0))], .fp 0 [.sl (tst n ord st 1).length (nsl (tst n ord st 1))]] (SS6 n P A h sc st ord))
   (outStI (.v (.bool (stl (anR n A) n ord st h v))) (SS6 n P A h sc st ord) I6 I6) := by
 unfold stl
 by_cases hv : v ∈ ord
 ·rw [decide_eq_true hv, Bool.true_or]; exact opK_known n P A hA hn hw h sc st ord _ _ v hv
 ·rw [decide_eq_false hv, Bool.false_or]; exact opK_new n P A hA hn hw h sc st ord v hv
theorem cdK_spec (n : Nat) (P A : List Nat) (hA : A.length = n) (hn : n ≤ 64) (hw : ∀ v, A.getD v 0 < 18446744073709551616) (h : Nat) (sc : List Nat) (st : List Int) (ord : List Nat) (v : Nat) :
  Spec Try.prog 132 (inStI [.v (.int .i64 (v : Int)), .fp 0 [.sl (tst n ord st 1).length (nsl (tst n ord st 1))], .ptr (1, 0) 0] (SS6 n P A h sc st ord))
   (outStI (.v (.bool ((tst n ord st 1).any fun b => decide (b ≠ v) && anR n A b v))) (SS6 n P A h sc st ord) I6 I6) := by
 have hB := tst_len n ord st 1
 have h1 := fun b => cand1_spec n P A hA hn hw h sc b v
 generalize tst n ord st 1 = B at hB ⊢
 refine Spec.ofNI Try.func132 rfl Try.ntmps132 rfl ?_
 refine D_seq fun K1 hK1 => ?_
 refine D_region ?_
 refine DL_c (op_box (3, 0) _ rfl rfl) ?_
 refine DL_c (asB rfl) ?_
 refine DL_nil (hK1 _ ?_)
 clear hK1; try clear K1
 refine D_seq fun K2 hK2 => ?_
 refine D_region ?_
 refine DL_c (op_ldF _ inferInstance rfl (rfl : _ = some (PV.sl B.length (nsl B))) rfl) ?_
 refine DL_c (op_mf _ _ (rfl : _ = []) (rfl : _ = [_, _])) ?_
 refine DL_c (op_callBD inferInstance (argsD_cons (.inl Lv.sl) (argsD_cons (argD (.fn rfl ln_nil rfl (ln_cons (.ptr rfl (Nat.le_refl _) (ln_cons (.v rfl) ln_nil)) (ln_cons (.ptr rfl (Nat.le_refl _) (ln_cons (lnS rfl) ln_nil)) ln_nil))) rfl) argsD_nil)) (containsN_spec 133 inferInstance [.fp 0 [.v (.int .i64 (v : Int))], .fp 0 [.ptr 0 (sP n P A h sc)]] rfl (fun _ => rfl) B.length B rfl (by omega) (fun b => decide (b ≠ v) && anR n A b v) h1) rfl) ?_
 refine DL_c (asB rfl) ?_
 refine DL_nil (hK2 _ ?_)
 clear hK2; try clear K2
 refine D_ret ?_
 exact ret1 (.inr rfl) rfl (.tmp (rfl : _ = AV.v (.bool _))) (Le.outI [] [] (lvB (by rfl)) rfl rfl rfl trivial ⟨⟨rfl, ⟨_, rfl, lvO_id _⟩, rfl⟩, ⟨rfl, ⟨_, rfl, lvO_id _⟩, rfl⟩, ⟨rfl, ⟨_, rfl, lvO_id _⟩, rfl⟩, ⟨rfl, ⟨_, rfl, lvO_id _⟩, rfl⟩, ⟨rfl, ⟨_, rfl, lvO_id _⟩, rfl⟩, ⟨rfl, ⟨_, rfl, lvO_id _⟩, rfl⟩, trivial⟩ ⟨rfl, rfl, rfl, rfl, rfl, rfl, trivial⟩ rfl)
set_option maxHeartbeats 2000000 in
theorem open_spec (n : Nat) (P A : List Nat) (hA : A.length = n) (hn : n ≤ 64) (hw : ∀ v, A.getD v 0 < 18446744073709551616) (h : Nat) (sc : List Nat) (st : List Int) (ord : List Nat) (ho : ok1 n ord) (h0 : 0 < sc.length) (h1 : sc.length ≤ 1000) :
  Spec Try.prog 108 (inStI [.ptr (0, 9) 0] (SSL n P A h sc st ord)) (outStI (.ref (0, 8) 0 (opn (anR n A) n ord st h sc).length) (SSL n P A h sc st ord ++ [((0, 8), .row 3 1 (nsl (opn (anR n A) n ord st h sc)))]) I5 I5) := by
 have hT := fun s => tested_spec n P A hn h sc st ord ho s
 have hD := delO 126 inferInstance n P A h sc st ord [.sl (tst n ord st 0).length (nsl (tst n ord st 0))] [.sl (tst n ord st 1).length (nsl (tst n ord st 1))] sc.length sc rfl (by omega) (stl (anR n A) n ord st h) (opK_spec n P A hA hn hw h sc st ord)
 rw [show (sc.filter fun v => !stl (anR n A) n ord st h v) = opn (anR n A) n ord st h sc from rfl] at hD
 generalize opn (anR n A) n ord st h sc = O at hD ⊢
 refine Spec.ofNI Try.func108 rfl Try.ntmps108 rfl ?_
 refine D_seq fun K1 hK1 => ?_
 refine D_region ?_
 refine DL_c (op_box (1, 0) _ rfl rfl) ?_
 refine DL_c (op_as _ (rfl : _ = AV.v (.slice _ _ _))) ?_
 refine DL_nil (hK1 _ ?_)
 clear hK1; try clear K1
 refine D_seq fun K2 hK2 => ?_
 refine D_anyL 6 [6, 7, 8, 9, 3, 4] [(60, 0), (61, 0), (3, 0), (4, 0)] (by kernel_rfl) (by kernel_rfl) rfl (nodupO_iff rfl) (rfl : _ = [_, _, _, _, _, _]) (rfl : _ = [_, _]) ?_
 refine any_c (_, []) (fun τ => op_ldB _ inferInstance rfl rfl (rfl : _ = some (AV.ptr _ _))) ?_
 refine any_n (rfl : _ = [_]) ?_
 refine any_c (_, [((60, 0), _)]) (fun τ => (op_callK inferInstance (60, 0) _ _ (by repeat' (first | exact argsR_nil | refine argsR_cons ?_ ?_ | exact Lv.v | exact lvPr rfl)) (hT 0) ⟨rfl, rfl, rfl, rfl, rfl, trivial⟩ rfl rfl rfl (by kernel_rfl) (by simp))) ?_
 refine any_n (rfl : _ = [_, _]) ?_
 refine any_c (_, []) (fun τ => op_ldB _ inferInstance rfl rfl (rfl : _ = some (AV.ptr _ _))) ?_
 refine any_n (rfl : _ = [_, _, _]) ?_
 refine any_c (_, [((61, 0), _)]) (fun τ => (op_callK inferInstance (61, 0) _ _ (by repeat' (first | exact argsR_nil | refine argsR_cons ?_ ?_ | exact Lv.v | exact lvPr rfl)) (hT 1) ⟨rfl, rfl, rfl, rfl, rfl, trivial⟩ rfl rfl rfl (by kernel_rfl) (by simp))) ?_
 refine any_n (rfl : _ = [_, _, _, _]) ?_
 refine any_c (_, [((3, 0), _)]) (fun τ => op_alloc (3, 0) inferInstance rfl rfl) ?_
 refine any_n (rfl : _ = [_, _, _, _, _]) ?_
 refine any_c (_, [((4, 0), _)]) (fun τ => op_alloc (4, 0) inferInstance rfl rfl) ?_
 refine any_n (rfl : _ = [_, _, _, _, _, _]) ?_
 refine any_end ⟨rfl, ?_⟩
 refine DL_c (op_stB _ _ inferInstance rfl rfl rfl rfl (Nat.le_of_ble_eq_true rfl) rfl) ?_
 refine DL_c (op_stB _ _ inferInstance rfl rfl rfl rfl (Nat.le_of_ble_eq_true rfl) rfl) ?_
 refine DL_nil (hK2 _ ?_)
 clear hK2; try clear K2
 refine D_seq fun K3 hK3 => ?_
 refine D_le (Le.trans (Le.frzPt 4 (rfl : _ = AV.ptr (4, 0) 0) rfl rfl rfl) (Le.trans (Le.frzPt 3 (rfl : _ = AV.ptr (3, 0) 0) rfl rfl rfl) (Le.trans (Le.frzB (ys := nsl (tst n ord st 1)) (4, 0) 0 rfl rfl rfl rfl (by rw [List.drop_zero, Nat.mul_one, List.take_of_length_le (by simp)]) (by simp)) (Le.frzB (ys := nsl (tst n ord st 0)) (3, 0) 0 rfl rfl rfl rfl (by rw [List.drop_zero, Nat.mul_one, List.take_of_length_le (by simp)]) (by simp))))) ?_
 refine D_region ?_
 refine DL_c (op_mf _ _ (rfl : _ = []) (rfl : _ = [_, _, _])) ?_
 refine DL_c (op_as _ (rfl : _ = AV.fn _ _ _)) ?_
 refine DL_nil (hK3 _ ?_)
 clear hK3; try clear K3
 refine D_seq fun K4 hK4 => ?_
 refine D_region ?_
 refine DL_c (op_ldB _ inferInstance rfl rfl (rfl : _ = some (AV.ptr _ _))) ?_
 refine DL_c (op_nilp _ rfl rfl) ?_
 refine DL_c (op_fldP _ inferInstance rfl rfl rfl) ?_
 refine DL_c (op_ldB _ inferInstance rfl rfl (rfl : _ = some (AV.sl _ _))) ?_
 refine DL_c (op_callP inferInstance [((0, 8), (62, 0))] ?_ ((clone_own sc.length sc rfl h0 (by omega)).toI) trivial ⟨rfl, trivial⟩ (by kernel_rfl)) ?_
 ·repeat' (first | exact argsR_nil | refine argsR_cons ?_ ?_ | exact Lv.sl)
 refine DL_c (op_mv _ (rfl : _ = AV.fn _ _ _)) ?_
 refine DL_c (op_callP inferInstance [((20, 9), (62, 0)), ((0, 8), (63, 0))] ?_ (hD) ⟨⟨rfl, ⟨_, rfl, .box rfl (lv_cons .fp (lv_cons .v (lv_cons .sl (lv_cons (.fn rfl (lv_cons (lvPr rfl) lv_nil) rfl lv_nil) (lv_cons .mp (lv_cons (lvRr rfl rfl) lv_nil))))))⟩, rfl⟩, ⟨rfl, ⟨_, rfl, .mp⟩, rfl⟩, ⟨rfl, ⟨_, rfl, .rowE rfl⟩, rfl⟩, ⟨rfl, ⟨_, rfl, .box rfl (lv_cons .sl (lv_cons (lvRr rfl rfl) lv_nil))⟩, rfl⟩, ⟨rfl, ⟨_, rfl, .rowE rfl⟩, rfl⟩, ⟨rfl, ⟨_, rfl, .box rfl (lv_cons (lvPr rfl) lv_nil)⟩, rfl⟩, ⟨rfl, ⟨_, rfl, .rowE rfl⟩, rfl⟩, trivial⟩ ⟨rfl, rfl, rfl, rfl, rfl, rfl, rfl, trivial⟩ (by kernel_rfl)) ?_
 ·repeat' (first | exact argsR_nil | refine argsR_cons ?_ ?_ | exact Lv.fp | exact lvRr rfl rfl | exact lvPr rfl | refine Lv.fn rfl ?_ rfl ?_ | exact lv_nil | refine lv_cons ?_ ?_)
 refine DL_c (asR rfl) ?_
 refine DL_nil (hK4 _ ?_)
 clear hK4; try clear K4
 refine D_ret ?_
 exact ret1 (.inr rfl) rfl (.tmp (rfl : _ = AV.ref _ _ _)) (Le.outI [((0, 8), (63, 0))] [] (lvRr rfl rfl) rfl rfl rfl trivial ⟨⟨rfl, ⟨_, rfl, .box rfl (lv_cons .fp (lv_cons .v (lv_cons .sl (lv_cons (.fn rfl (lv_cons (lvPr rfl) lv_nil) rfl lv_nil) (lv_cons .mp (lv_cons (lvRr rfl rfl) lv_nil))))))⟩, rfl⟩, ⟨rfl, ⟨_, rfl, .mp⟩, rfl⟩, ⟨rfl, ⟨_, rfl, .rowE rfl⟩, rfl⟩, ⟨rfl, ⟨_, rfl, .box rfl (lv_cons .sl (lv_cons (lvRr rfl rfl) lv_nil))⟩, rfl⟩, ⟨rfl, ⟨_, rfl, .rowE rfl⟩, rfl⟩, ⟨rfl, ⟨_, rfl, .rowE rfl⟩, rfl⟩, trivial⟩ ⟨rfl, rfl, rfl, rfl, rfl, trivial⟩ rfl)
set_option maxHeartbeats 2000000 in
theorem cnd_spec (n : Nat) (P A : List Nat) (hA : A.length = n) (hn : n ≤ 64) (hw : ∀ v, A.getD v 0 < 18446744073709551616) (h : Nat) (sc : List Nat) (st : List Int) (ord : List Nat) (ho : ok1 n ord) (h0 : 0 < (tst n ord st 1).length) :
  Spec Try.prog 111 (inStI [.ptr (0, 9) 0] (SSL n P A h sc st ord)) (outStI (.ref (0, 8) 0 (cnd (anR n A) n ord st).length) (SSL n P A h sc st ord ++ [((0, 8), .row 3 1 (nsl (cnd (anR n A) n ord st)))]) I5 I5) := by
 have hT := tested_spec n P A hn h sc st ord ho 1
 have hB := tst_len n ord st 1
 have hD := delC 132 inferInstance n P A h sc st ord [.sl (tst n ord st 1).length (nsl (tst n ord st 1))] (tst n ord st 1).length (tst n ord st 1) rfl (by omega) (fun v => (tst n ord st 1).any fun b => decide (b ≠ v) && anR n A b v) (cdK_spec n P A hA hn hw h sc st ord)
 rw [show ((tst n ord st 1).filter fun v => !(tst n ord st 1).any fun b => decide (b ≠ v) && anR n A b v) = cnd (anR n A) n ord st from rfl] at hD
 generalize cnd (anR n A) n ord st = O at hD ⊢
 refine Spec.ofNI Try.func111 rfl Try.ntmps111 rfl ?_
 refine D_seq fun K1 hK1 => ?_
 refine D_region ?_
 refine DL_c (op_box (1, 0) _ rfl rfl) ?_
 refine DL_c (op_as _ (rfl : _ = AV.v (.slice _ _ _))) ?_
 refine DL_nil (hK1 _ ?_)
 clear hK1; try clear K1
 refine D_seq fun K2 hK2 => ?_
 refine D_region ?_
 refine DL_c (op_ldB _ inferInstance rfl rfl (rfl : _ = some (AV.ptr _ _))) ?_
 refine DL_c (op_callK inferInstance (60, 0) _ _ (by repeat' (first | exact argsR_nil | refine argsR_cons ?_ ?_ | exact Lv.v | exact lvPr rfl)) (hT) ⟨rfl, rfl, rfl, rfl, rfl, trivial⟩ rfl rfl rfl (by kernel_rfl) (by simp)) ?_
 refine DL_c (op_alloc (3, 0) inferInstance rfl rfl) ?_
 refine DL_c (op_stB _ _ inferInstance rfl rfl rfl rfl (Nat.le_of_ble_eq_true rfl) rfl) ?_
 refine DL_nil (hK2 _ ?_)
 clear hK2; try clear K2
 refine D_seq fun K3 hK3 => ?_
 refine D_le (Le.trans (Le.frzPt 3 (rfl : _ = AV.ptr (3, 0) 0) rfl rfl rfl) (Le.frzB (ys := nsl (tst n ord st 1)) (3, 0) 0 rfl rfl rfl rfl (by rw [List.drop_zero, Nat.mul_one, List.take_of_length_le (by simp)]) (by simp))) ?_
 refine D_region ?_
 refine DL_c (op_ldF _ inferInstance rfl (rfl : _ = some (PV.sl (tst n ord st 1).length (nsl (tst n ord st 1)))) rfl) ?_
 refine DL_c (op_callP inferInstance [((0, 8), (62, 0))] ?_ ((clone_own (tst n ord st 1).length (tst n ord st 1) rfl h0 (by omega)).toI) trivial ⟨rfl, trivial⟩ (by kernel_rfl)) ?_
 ·repeat' (first | exact argsR_nil | refine argsR_cons ?_ ?_ | exact Lv.sl)
 refine DL_c (op_mf _ _ (rfl : _ = []) (rfl : _ = [_, _])) ?_
 refine DL_c (op_callP inferInstance [((20, 9), (62, 0)), ((0, 8), (63, 0))] ?_ (hD) ⟨⟨rfl, ⟨_, rfl, .box rfl (lv_cons .fp (lv_cons .v (lv_cons .sl (lv_cons (.fn rfl (lv_cons (lvPr rfl) lv_nil) rfl lv_nil) (lv_cons .mp (lv_cons (lvRr rfl rfl) lv_nil))))))⟩, rfl⟩, ⟨rfl, ⟨_, rfl, .mp⟩, rfl⟩, ⟨rfl, ⟨_, rfl, .rowE rfl⟩, rfl⟩, ⟨rfl, ⟨_, rfl, .box rfl (lv_cons .sl (lv_cons (lvRr rfl rfl) lv_nil))⟩, rfl⟩, ⟨rfl, ⟨_, rfl, .rowE rfl⟩, rfl⟩, ⟨rfl, ⟨_, rfl, .box rfl (lv_cons (lvPr rfl) lv_nil)⟩, rfl⟩, ⟨rfl, ⟨_, rfl, .rowE rfl⟩, rfl⟩, trivial⟩ ⟨rfl, rfl, rfl, rfl, rfl, rfl, rfl, trivial⟩ (by kernel_rfl)) ?_
 ·repeat' (first | exact argsR_nil | refine argsR_cons ?_ ?_ | exact Lv.fp | exact lvRr rfl rfl | exact lvPr rfl | refine Lv.fn rfl ?_ rfl ?_ | exact lv_nil | refine lv_cons ?_ ?_)
 refine DL_c (asR rfl) ?_
 refine DL_nil (hK3 _ ?_)
 clear hK3; try clear K3
 refine D_ret ?_
 exact ret1 (.inr rfl) rfl (.tmp (rfl : _ = AV.ref _ _ _)) (Le.outI [((0, 8), (63, 0))] [] (lvRr rfl rfl) rfl rfl rfl trivial ⟨⟨rfl, ⟨_, rfl, .box rfl (lv_cons .fp (lv_cons .v (lv_cons .sl (lv_cons (.fn rfl (lv_cons (lvPr rfl) lv_nil) rfl lv_nil) (lv_cons .mp (lv_cons (lvRr rfl rfl) lv_nil))))))⟩, rfl⟩, ⟨rfl, ⟨_, rfl, .mp⟩, rfl⟩, ⟨rfl, ⟨_, rfl, .rowE rfl⟩, rfl⟩, ⟨rfl, ⟨_, rfl, .box rfl (lv_cons .sl (lv_cons (lvRr rfl rfl) lv_nil))⟩, rfl⟩, ⟨rfl, ⟨_, rfl, .rowE rfl⟩, rfl⟩, ⟨rfl, ⟨_, rfl, .rowE rfl⟩, rfl⟩, trivial⟩ ⟨rfl, rfl, rfl, rfl, rfl, trivial⟩ rfl)
end Go.Proofs.Ytkbkmngbenohkaa
