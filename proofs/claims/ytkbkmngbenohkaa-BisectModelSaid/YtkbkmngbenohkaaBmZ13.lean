/- Part 13 of the texts that the walk leans on: the machine, the walks, the plain laws. -/
import Derived.Test.YtkbkmngbenohkaaBmZ12
set_option linter.unusedSimpArgs false
set_option linter.unusedVariables false
namespace Go.Proofs.Ytkbkmngbenohkaa
open Go.RowKit

theorem bls_len {vs : Nat → VS → VS × Bool} {n : Nat} : ∀ (l : List Nat) (q : BS), (vlist (bstep vs n) l q).2 = true → (vlist (bstep vs n) l q).1.2.length = q.2.length + l.length
 | [], q, _ => by simp [vlist]
 | v :: l, q, h => by
  cases hs : (vs v (q.1, [])).2 with
  | true =>
   have e : bstep vs n v q = (((vs v (q.1, [])).1.1, q.2 ++ [(v, fil n (vs v (q.1, [])).1.2)]), true) := by unfold bstep; rw [if_pos hs]
   simp only [vlist, e, if_true] at h ⊢
   rw [bls_len l _ h]
   simp only [List.length_append, List.length_cons, List.length_nil]; omega
  | false =>
   have e : bstep vs n v q = (((vs v (q.1, [])).1.1, q.2), false) := by unfold bstep; rw [if_neg (by simp [hs])]
   simp only [vlist, e] at h
   cases h
theorem adN_new {ord : List Nat} {v : Nat} (h : v ∉ ord) : adN ord v = ord ++ [v] := if_neg h
def fOut (st : List Int) : BS × Bool → St
 | ((ord, bl), true) => outStI (.tup [.ref (0, 8) 0 bl.length, .ref (2, 8) 0 ord.length, .v (.int .i64 0)]) [((3, 9), .box 93 [.sl st.length (isl st), .ref (4, 8) 0 ord.length]), ((4, 8), .row 3 1 (nsl ord)), ((0, 8), .row 75 2 (blR bl)), ((2, 8), .row 3 1 (nsl ord))] [(3, 9)] [(3, 9)]
 | ((ord, _), false) => outStI (.tup [.v (.slice none 0 0), .v (.slice none 0 0), .v (.int .i64 42)]) [((3, 9), .box 93 [.sl st.length (isl st), .ref (4, 8) 0 ord.length]), ((4, 8), .row 3 1 (nsl ord))] [(3, 9)] [(3, 9)]
theorem find_ver (n : Nat) (P A : List Nat) (hP : P.length = n) (hA : A.length = n) (hn : n ≤ 64) (hwP : ∀ v, P.getD v 0 < 18446744073709551616) (hwA : ∀ v, A.getD v 0 < 18446744073709551616) (hpar : ∀ v p : Nat, p ∈ wat n P (v : Int) → p < n) (st : List Int) (h1 : st.length ≤ 4611686018427387904) (h : Nat) (hh : h < n) (hs : nst st h ≠ 1) :
  Spec Try.prog 72 (inStI [.fp 0 (gra n P A), .v (.int .i64 (h : Int)), .fn (.func 73) [.ptr (3, 9) 0] []] [((3, 9), .box 93 [.sl st.length (isl st), .v (.slice none 0 0)])]) (outStI (.tup [.v (.slice none 0 0), .v (.slice none 0 0), .v (.int .i64 41)]) [((3, 9), .box 93 [.sl st.length (isl st), .ref (4, 8) 0 [h].length]), ((4, 8), .row 3 1 (nsl [h]))] [(3, 9)] [(3, 9)]) := by
 have hl := vlen_spec n P A
 have hanc := ancestors_spec n P A hA hn hwA (h : Int)
 have htry := try_spec n P A hn h (wat n A (h : Int)) st h1 [] ⟨List.nodup_nil, fun v hv => by simp at hv⟩ h
 rw [adN_new (by simp), List.nil_append] at htry
 refine Spec.ofNI Try.func72 rfl Try.ntmps72 rfl ?_
 refine D_seq fun K1 hK1 => ?_
 refine D_region ?_
 refine DL_c (op_as _ (rfl : _ = AV.v (.slice _ _ _))) ?_
 refine DL_c (op_as _ (rfl : _ = AV.v (.slice _ _ _))) ?_
 refine DL_c (asI rfl) ?_
 refine DL_nil (hK1 _ ?_)
 clear hK1; try clear K1
 refine D_seq fun K2 hK2 => ?_
 refine D_seq fun K3 hK3 => ?_
 refine D_region ?_
 refine DL_c (mvI rfl) ?_
 refine DL_c (op_lss _ _ rfl rfl rfl) ?_
 refine DL_c (mvB rfl) ?_
 refine DL_caseC (fun hg18 => ?_) (fun hg18 => ?_)
 ·skip
  exact absurd  hg18 (by omega)
 ·skip
  refine DL_cy rfl rfl (mvI rfl) ?_
  refine DL_cy rfl rfl (op_mv _ (rfl : _ = AV.fp _ _)) ?_
  refine DL_cy rfl rfl (op_callH inferInstance (by repeat' (first | exact argsLv_nil | refine argsLv_cons ?_ ?_ | exact Lv.fp)) (hl) rfl rfl) ?_
  refine DL_cy rfl rfl (op_geq _ _ rfl rfl rfl) ?_
  refine DL_c (op_pick _ _ _ rfl (rfl : _ = AV.v (.bool _))) ?_
  refine DL_nil (hK3 _ ?_)
  clear hK3; try clear K3
  refine D_splitC rfl (fun hc23 => ?_) (fun hc23 => ?_)
  ·skip
   exact absurd  hc23 (by omega)
  ·skip
   refine D_skip (hK2 _ ?_)
   clear hK2; try clear K2
   refine D_seq fun K4 hK4 => ?_
   refine D_region ?_
   refine DL_c (op_mv _ (rfl : _ = AV.fp _ _)) ?_
   refine DL_c (mvI rfl) ?_
   refine DL_c (op_mv _ (rfl : _ = AV.fp _ _)) ?_
   refine DL_c (mvI rfl) ?_
   refine DL_c (op_callH inferInstance (by repeat' (first | exact argsLv_nil | refine argsLv_cons ?_ ?_ | exact Lv.v | exact Lv.fp)) (hanc) rfl rfl) ?_
   refine DL_c (op_mv _ (rfl : _ = AV.fn _ _ _)) ?_
   refine DL_c (op_mkM (30, 0) rfl) ?_
   refine DL_c (op_build _ inferInstance rfl (by exact (rfl : _ = some [_, _, _, _, _, _]))) ?_
   refine DL_c (op_box (32, 0) _ rfl rfl) ?_
   refine DL_c (op_as _ (rfl : _ = AV.ptr _ _)) ?_
   refine DL_nil (hK4 _ ?_)
   clear hK4; try clear K4
   refine D_seq fun K5 hK5 => ?_
   refine D_seq fun K6 hK6 => ?_
   refine D_le (σ' := mkStI 78 [(1, _), (9, .ptr (0, 9) _)] [((3, 9), _), ((1, 9), _), ((0, 9), .box _ [_, _, _, _, .mp (1, 9), _])] [(3, 9)] [(3, 9)]) (by
    refine Le.mkJ [((0, 9), (32, 0)), ((1, 9), (30, 0))] [] rfl ?_ ?_ trivial ⟨rfl, trivial⟩ ?_
    ·exact ⟨(lvW [(3, 9)] rfl (rfl : _ = AV.v _) rfl), (lvPr rfl), trivial⟩
    ·exact ⟨(obW [(3, 9)] rfl rfl rfl rfl rfl), (by exact obM rfl rfl rfl rfl rfl), (obB rfl rfl rfl rfl (lv_cons (by exact lvW [(3, 9)] rfl (rfl : _ = AV.fp _ _) rfl) (lv_cons (by exact lvW [(3, 9)] rfl (rfl : _ = AV.v _) rfl) (lv_cons (by exact lvW [(3, 9)] rfl (rfl : _ = AV.sl _ _) rfl) (lv_cons (by exact lvW [(3, 9)] rfl (rfl : _ = AV.fn _ _ _) rfl) (lv_cons (by repeat' (exact Lv.mp)) (lv_cons (by exact lvW [(3, 9)] rfl (rfl : _ = AV.v _) rfl) lv_nil))))))), trivial⟩
    ·kernel_rfl) ?_
   refine D_le (Le.trans (Le.nilB (3, 9) 1 (4, 9) 3 1 rfl rfl rfl) (Le.nilB (0, 9) 5 (2, 9) 3 1 rfl rfl rfl)) ?_
   refine D_region ?_
   refine DL_c (op_mv _ (rfl : _ = AV.ptr _ _)) ?_
   refine DL_c (mvI rfl) ?_
   refine DL_c (op_callP inferInstance [((2, 8), (62, 0)), ((4, 8), (64, 0))] ?_ (htry) (insK ⟨rfl, rfl, rfl, rfl, rfl, trivial⟩ rfl rfl) ⟨rfl, rfl, rfl, rfl, rfl, trivial⟩ (by kernel_rfl)) ?_
   ·repeat' (first | exact argsR_nil | refine argsR_cons ?_ ?_ | exact Lv.v | exact lvPr rfl)
   refine DL_c (op_neq _ _ rfl rfl rfl) ?_
   refine DL_nil (hK6 _ ?_)
   clear hK6; try clear K6
   refine D_splitC rfl (fun hc36 => ?_) (fun hc36 => ?_)
   ·skip
    refine D_seq fun K7 hK7 => ?_
    refine D_region ?_
    refine DL_c (op_as _ (rfl : _ = AV.v (.slice _ _ _))) ?_
    refine DL_c (op_as _ (rfl : _ = AV.v (.slice _ _ _))) ?_
    refine DL_c (asI rfl) ?_
    refine DL_nil (hK7 _ ?_)
    clear hK7; try clear K7
    refine D_ret ?_
    exact ret3 (.inr rfl) rfl (.tmp (rfl : _ = AV.v _)) (.tmp (rfl : _ = AV.v _)) (.tmp (rfl : _ = AV.v _)) (Le.outI [((4, 8), (64, 0))] [] (.tup rfl (lv_cons .v (lv_cons .v (lv_cons .v lv_nil)))) rfl rfl rfl trivial ⟨⟨rfl, ⟨_, rfl, .box rfl (lv_cons .sl (lv_cons (lvRr rfl rfl) lv_nil))⟩, rfl⟩, ⟨rfl, ⟨_, rfl, .rowE rfl⟩, rfl⟩, trivial⟩ ⟨rfl, trivial⟩ rfl)
   ·skip
    exact absurd  hc36 hs
set_option maxHeartbeats 8000000 in
theorem find_spec (n : Nat) (P A : List Nat) (hP : P.length = n) (hA : A.length = n) (hn : n ≤ 64) (hwP : ∀ v, P.getD v 0 < 18446744073709551616) (hwA : ∀ v, A.getD v 0 < 18446744073709551616) (hpar : ∀ v p : Nat, p ∈ wat n P (v : Int) → p < n) (st : List Int) (h1 : st.length ≤ 4611686018427387904) (h : Nat) (hh : h < n) (hs : nst st h = 1) (hself : h ∈ wat n A (h : Int)) (hscn : ∀ v ∈ wat n A (h : Int), v < n) :
  Spec Try.prog 72 (inStI [.fp 0 (gra n P A), .v (.int .i64 (h : Int)), .fn (.func 73) [.ptr (3, 9) 0] []] [((3, 9), .box 93 [.sl st.length (isl st), .v (.slice none 0 0)])]) (fOut st (fnd (anR n A) n (fun v => wat n P (v : Int)) st h (wat n A (h : Int)))) := by
 have hl := vlen_spec n P A
 have hanc := ancestors_spec n P A hA hn hwA (h : Int)
 have hscl := wat_len (n := n) A (h : Int)
 have htry := try_spec n P A hn h (wat n A (h : Int)) st h1 [] ⟨List.nodup_nil, fun v hv => by simp at hv⟩ h
 rw [adN_new (by simp), List.nil_append] at htry
 generalize wat n A (h : Int) = sc at *
 have hsc0 : 0 < sc.length := List.length_pos_of_mem hself
 have hok0 : ok1 n [h] := ⟨by simp, fun v hv => by simp at hv; omega⟩
 obtain ⟨res, hres⟩ : ∃ r, r = fnd (anR n A) n (fun v => wat n P (v : Int)) st h sc := ⟨_, rfl⟩
 rw [← hres]
 unfold fnd at hres
 have hop := fun ord ho => open_spec n P A hA hn hwA h sc st ord ho hsc0 (by omega)
 refine Spec.ofNI Try.func72 rfl Try.ntmps72 rfl ?_
 refine D_seq fun K1 hK1 => ?_
 refine D_region ?_
 refine DL_c (op_as _ (rfl : _ = AV.v (.slice _ _ _))) ?_
 refine DL_c (op_as _ (rfl : _ = AV.v (.slice _ _ _))) ?_
 refine DL_c (asI rfl) ?_
 refine DL_nil (hK1 _ ?_)
 clear hK1; try clear K1
 refine D_seq fun K2 hK2 => ?_
 refine D_seq fun K3 hK3 => ?_
 refine D_region ?_
 refine DL_c (mvI rfl) ?_
 refine DL_c (op_lss _ _ rfl rfl rfl) ?_
 refine DL_c (mvB rfl) ?_
 refine DL_caseC (fun hg18 => ?_) (fun hg18 => ?_)
 ·skip
  exact absurd  hg18 (by omega)
 ·skip
  refine DL_cy rfl rfl (mvI rfl) ?_
  refine DL_cy rfl rfl (op_mv _ (rfl : _ = AV.fp _ _)) ?_
  refine DL_cy rfl rfl (op_callH inferInstance (by repeat' (first | exact argsLv_nil | refine argsLv_cons ?_ ?_ | exact Lv.fp)) (hl) rfl rfl) ?_
  refine DL_cy rfl rfl (op_geq _ _ rfl rfl rfl) ?_
  refine DL_c (op_pick _ _ _ rfl (rfl : _ = AV.v (.bool _))) ?_
  refine DL_nil (hK3 _ ?_)
  clear hK3; try clear K3
  refine D_splitC rfl (fun hc23 => ?_) (fun hc23 => ?_)
  ·skip
   exact absurd  hc23 (by omega)
  ·skip
   refine D_skip (hK2 _ ?_)
   clear hK2; try clear K2
   refine D_seq fun K4 hK4 => ?_
   refine D_region ?_
   refine DL_c (op_mv _ (rfl : _ = AV.fp _ _)) ?_
   refine DL_c (mvI rfl) ?_
   refine DL_c (op_mv _ (rfl : _ = AV.fp _ _)) ?_
   refine DL_c (mvI rfl) ?_
   refine DL_c (op_callH inferInstance (by repeat' (first | exact argsLv_nil | refine argsLv_cons ?_ ?_ | exact Lv.v | exact Lv.fp)) (hanc) rfl rfl) ?_
   refine DL_c (op_mv _ (rfl : _ = AV.fn _ _ _)) ?_
   refine DL_c (op_mkM (30, 0) rfl) ?_
   refine DL_c (op_build _ inferInstance rfl (by exact (rfl : _ = some [_, _, _, _, _, _]))) ?_
   refine DL_c (op_box (32, 0) _ rfl rfl) ?_
   refine DL_c (op_as _ (rfl : _ = AV.ptr _ _)) ?_
   refine DL_nil (hK4 _ ?_)
   clear hK4; try clear K4
   refine D_seq fun K5 hK5 => ?_
   refine D_seq fun K6 hK6 => ?_
   refine D_le (σ' := mkStI 78 [(1, _), (9, .ptr (0, 9) _)] [((3, 9), _), ((1, 9), _), ((0, 9), .box _ [_, _, _, _, .mp (1, 9), _])] [(3, 9)] [(3, 9)]) (by
    refine Le.mkJ [((0, 9), (32, 0)), ((1, 9), (30, 0))] [] rfl ?_ ?_ trivial ⟨rfl, trivial⟩ ?_
    ·exact ⟨(lvW [(3, 9)] rfl (rfl : _ = AV.v _) rfl), (lvPr rfl), trivial⟩
    ·exact ⟨(obW [(3, 9)] rfl rfl rfl rfl rfl), (by exact obM rfl rfl rfl rfl rfl), (obB rfl rfl rfl rfl (lv_cons (by exact lvW [(3, 9)] rfl (rfl : _ = AV.fp _ _) rfl) (lv_cons (by exact lvW [(3, 9)] rfl (rfl : _ = AV.v _) rfl) (lv_cons (by exact lvW [(3, 9)] rfl (rfl : _ = AV.sl _ _) rfl) (lv_cons (by exact lvW [(3, 9)] rfl (rfl : _ = AV.fn _ _ _) rfl) (lv_cons (by repeat' (exact Lv.mp)) (lv_cons (by exact lvW [(3, 9)] rfl (rfl : _ = AV.v _) rfl) lv_nil))))))), trivial⟩
    ·kernel_rfl) ?_
   refine D_le (Le.trans (Le.nilB (3, 9) 1 (4, 9) 3 1 rfl rfl rfl) (Le.nilB (0, 9) 5 (2, 9) 3 1 rfl rfl rfl)) ?_
   refine D_region ?_
   refine DL_c (op_mv _ (rfl : _ = AV.ptr _ _)) ?_
   refine DL_c (mvI rfl) ?_
   refine DL_c (op_callP inferInstance [((2, 8), (62, 0)), ((4, 8), (64, 0))] ?_ (htry) (insK ⟨rfl, rfl, rfl, rfl, rfl, trivial⟩ rfl rfl) ⟨rfl, rfl, rfl, rfl, rfl, trivial⟩ (by kernel_rfl)) ?_
   ·repeat' (first | exact argsR_nil | refine argsR_cons ?_ ?_ | exact Lv.v | exact lvPr rfl)
   refine DL_c (op_neq _ _ rfl rfl rfl) ?_
   refine DL_nil (hK6 _ ?_)
   clear hK6; try clear K6
   refine D_splitC rfl (fun hc36 => ?_) (fun hc36 => ?_)
   ·skip
    exact absurd  hs hc36
   ·skip
    refine D_skip (hK5 _ ?_)
    clear hK5; try clear K5
    refine D_seq fun K7 hK7 => ?_
    refine D_seq fun K8 hK8 => ?_
    refine D_le (σ' := mkStI 78 [(9, _)] [((3, 9), .box _ [_, .ref (4, 9) _ _]), ((1, 9), _), ((0, 9), .box _ [_, _, _, _, _, .ref (2, 9) _ _]), ((2, 9), _), ((4, 9), _)] [(3, 9)] [(3, 9)]) (by
     refine Le.mkJ [((2, 9), (62, 0)), ((4, 9), (64, 0))] [] rfl ?_ ?_ trivial ⟨rfl, trivial⟩ ?_
     ·exact ⟨(lvW [(3, 9), (1, 9), (0, 9)] rfl (rfl : _ = AV.ptr _ _) rfl), trivial⟩
     ·exact ⟨(obB rfl rfl rfl rfl (lv_cons (by exact lvW [(3, 9), (1, 9), (0, 9)] rfl (rfl : _ = AV.sl _ _) rfl) (lv_cons (lvRr rfl (by rfl)) lv_nil))), (by exact obM rfl rfl rfl rfl rfl), (obB rfl rfl rfl rfl (lv_cons (by exact lvW [(3, 9), (1, 9), (0, 9)] rfl (rfl : _ = AV.fp _ _) rfl) (lv_cons (by exact lvW [(3, 9), (1, 9), (0, 9)] rfl (rfl : _ = AV.v _) rfl) (lv_cons (by exact lvW [(3, 9), (1, 9), (0, 9)] rfl (rfl : _ = AV.sl _ _) rfl) (lv_cons (by exact lvW [(3, 9), (1, 9), (0, 9)] rfl (rfl : _ = AV.fn _ _ _) rfl) (lv_cons (by exact lvW [(3, 9), (1, 9), (0, 9)] rfl (rfl : _ = AV.mp _) rfl) (lv_cons (lvRr rfl (by rfl)) lv_nil))))))), (by exact obR rfl rfl rfl rfl), (by exact obR rfl rfl rfl rfl), trivial⟩
     ·kernel_rfl) ?_
    refine D_region ?_
    refine DL_c (op_mv _ (rfl : _ = AV.ptr _ _)) ?_
    refine DL_c (op_callK inferInstance (66, 0) _ _ (by repeat' (first | exact argsR_nil | refine argsR_cons ?_ ?_ | exact lvPr rfl)) (hop [h] hok0) ⟨rfl, rfl, rfl, rfl, rfl, trivial⟩ rfl rfl rfl (by kernel_rfl) (by simp)) ?_
    refine DL_c (asR rfl) ?_
    refine DL_nil (hK8 _ ?_)
    clear hK8; try clear K8
    refine D_block ?_
    refine D_loopL (α := Nat × List Nat) (fun q => ok1 n q.2 ∧ lop (anR n A) n st h sc n [h] = lop (anR n A) n st h sc q.1 q.2 ∧ n ≤ q.2.length + q.1 ∧ h ∈ q.2) 78 [(9, _)] [] (fun q => [(10, .ref (66, 0) 0 (opn (anR n A) n q.2 st h sc).length)]) (fun q => [((0, 9), .box 136 [.fp 0 (gra n P A), .v (.int .i64 (h : Int)), .sl sc.length (nsl sc), .fn (.func 73) [.ptr (3, 9) 0] [], .mp (1, 9), .ref (2, 9) 0 q.2.length]), ((1, 9), .mp (ment (mmap st q.2)) (mmap st q.2).length), ((2, 9), .row 3 1 (nsl q.2)), ((3, 9), .box 93 [.sl st.length (isl st), .ref (4, 9) 0 q.2.length]), ((4, 9), .row 3 1 (nsl q.2)), ((66, 0), .row 3 1 (nsl (opn (anR n A) n q.2 st h sc)))]) [(3, 9)] [(3, 9)] (fun q => q.1) (n, [h]) ?_ (by
     refine Le.mkJ [] [] rfl ?_ ?_ trivial ⟨rfl, trivial⟩ ?_
     ·exact ⟨(iP rfl), (lvRr rfl (by rfl)), trivial⟩
     ·exact ⟨(obB rfl rfl rfl rfl (lv_cons (by repeat' (exact Lv.fp)) (lv_cons (lvI (by rfl)) (lv_cons (lvSr (by rfl) (by rfl)) (lv_cons (by repeat' (first | exact lvPr rfl | refine Lv.fn rfl ?_ rfl ?_ | exact lv_nil | refine lv_cons ?_ ?_)) (lv_cons (by repeat' (exact Lv.mp)) (lv_cons (lvRr rfl (by rfl)) lv_nil))))))), (obM rfl rfl rfl (by rfl) (by rfl)), (obR rfl rfl rfl (by rfl)), (obB rfl rfl rfl rfl (lv_cons (lvSr (by rfl) (by rfl)) (lv_cons (lvRr rfl (by rfl)) lv_nil))), (obR rfl rfl rfl (by rfl)), (obR rfl rfl rfl (by rfl)), trivial⟩
     ·kernel_rfl) ?_
    ·exact ⟨hok0, rfl, by simp, by simp⟩
    intro q hq
    obtain ⟨k, ord⟩ := q
    obtain ⟨hok, hlop, hfu, hho⟩ := hq
    simp only at hok hlop hfu hho ⊢
    have hol := hok.len
    obtain ⟨O, hO⟩ : ∃ O, O = opn (anR n A) n ord st h sc := ⟨_, rfl⟩
    have hOl : O.length ≤ sc.length := by rw [hO]; exact List.length_filter_le _ _
    rw [← hO]
    refine D_seq fun K9 hK9 => ?_
    refine D_seq fun K10 hK10 => ?_
    refine D_region ?_
    refine DL_c (mvR rfl) ?_
    refine DL_c (op_lenR _ inferInstance rfl rfl) ?_
    refine DL_c (op_gtr _ _ rfl rfl rfl) ?_
    refine DL_nil (hK10 _ ?_)
    clear hK10; try clear K10
    refine D_splitC rfl (fun hc41 => ?_) (fun hc41 => ?_)
    ·skip
     have hne : O ≠ [] := by intro e; rw [e] at hc41; simp at hc41
     obtain ⟨hm1, hm2⟩ := chsN_mem (R := anR n A) hne
     have hfew := opn_few (R := anR n A) (st := st) (h := h) hok hscn (hO ▸ hne)
     have hmem := opn_mem (R := anR n A) (n := n) (ord := ord) (st := st) (h := h) (sc := sc) (v := chsN (anR n A) O) (by rw [← hO]; exact hm1)
     obtain ⟨j, rfl⟩ : ∃ j, k = j + 1 := ⟨k - 1, by omega⟩
     obtain ⟨v, hv⟩ : ∃ v, v = chsN (anR n A) O := ⟨_, rfl⟩
     rw [← hv] at hm1 hm2 hmem
     have hch := choose_spec n P A hA hn hwA h sc O.length O rfl (by omega)
     rw [hm2] at hch
     have hvn := hscn v hmem.1
     have hok2 := hok.add hvn hmem.2
     have htr2 := try_spec n P A hn h sc st h1 ord hok v
     rw [adN_new hmem.2] at htr2
     have hstop := lop_stop (R := anR n A) (n := n) (st := st) (h := h) (sc := sc) (k := j) (ord := ord) (hO ▸ hne)
     have hnext := lop_next (R := anR n A) (n := n) (st := st) (h := h) (sc := sc) (k := j) (ord := ord) (hO ▸ hne)
     rw [← hO, ← hv] at hstop hnext
     refine D_skip (hK9 _ ?_)
     clear hK9; try clear K9
     refine D_seq fun K11 hK11 => ?_
     refine D_block ?_
     refine D_seq fun K12 hK12 => ?_
     refine D_region ?_
     refine DL_c (op_mv _ (rfl : _ = AV.ptr _ _)) ?_
     refine DL_c (op_mv _ (rfl : _ = AV.ptr _ _)) ?_
     refine DL_c (mvR rfl) ?_
     refine DL_c (op_callBD inferInstance (argsD_cons (argD (lnS rfl) rfl) (argsD_cons (argD (.ref (ys := nsl O) rfl (by rw [List.drop_zero, Nat.mul_one, List.take_of_length_le (by simp)]) (by simp)) rfl) argsD_nil)) (hch) rfl) ?_
     refine DL_c (op_callP inferInstance [((2, 8), (72, 0)), ((4, 8), (74, 0))] ?_ (htr2) (insK ⟨rfl, rfl, rfl, rfl, rfl, trivial⟩ rfl rfl) ⟨rfl, rfl, rfl, rfl, rfl, trivial⟩ (by kernel_rfl)) ?_
     ·repeat' (first | exact argsR_nil | refine argsR_cons ?_ ?_ | exact Lv.v | exact lvPr rfl)
     refine DL_nil (hK12 _ ?_)
     clear hK12; try clear K12
     refine D_seq fun K13 hK13 => ?_
     refine D_le (σ' := mkStI 78 [(9, _)] [((0, 9), .box _ [_, _, _, _, _, .ref (2, 9) _ _]), ((1, 9), _), ((3, 9), .box _ [_, .ref (4, 9) _ _]), ((2, 9), _), ((4, 9), _)] [(3, 9)] [(3, 9)]) (by
      refine Le.mkJ [((2, 9), (72, 0)), ((4, 9), (74, 0))] [] rfl ?_ ?_ trivial ⟨rfl, trivial⟩ ?_
      ·exact ⟨(lvW [(0, 9), (1, 9), (3, 9)] rfl (rfl : _ = AV.ptr _ _) rfl), trivial⟩
      ·exact ⟨(obB rfl rfl rfl rfl (lv_cons (by exact lvW [(0, 9), (1, 9), (3, 9)] rfl (rfl : _ = AV.fp _ _) rfl) (lv_cons (by exact lvW [(0, 9), (1, 9), (3, 9)] rfl (rfl : _ = AV.v _) rfl) (lv_cons (by exact lvW [(0, 9), (1, 9), (3, 9)] rfl (rfl : _ = AV.sl _ _) rfl) (lv_cons (by exact lvW [(0, 9), (1, 9), (3, 9)] rfl (rfl : _ = AV.fn _ _ _) rfl) (lv_cons (by exact lvW [(0, 9), (1, 9), (3, 9)] rfl (rfl : _ = AV.mp _) rfl) (lv_cons (lvRr rfl (by rfl)) lv_nil))))))), (by exact obM rfl rfl rfl rfl rfl), (obB rfl rfl rfl rfl (lv_cons (by exact lvW [(0, 9), (1, 9), (3, 9)] rfl (rfl : _ = AV.sl _ _) rfl) (lv_cons (lvRr rfl (by rfl)) lv_nil))), (by exact obR rfl rfl rfl rfl), (by exact obR rfl rfl rfl rfl), trivial⟩
      ·kernel_rfl) ?_
     refine D_region ?_
     refine DL_c (op_mv _ (rfl : _ = AV.ptr _ _)) ?_
     refine DL_c (op_callK0 inferInstance _ _ (by repeat' (first | exact argsR_nil | refine argsR_cons ?_ ?_ | exact lvPr rfl)) (con_spec n P A hA hn hwA h sc st (ord ++ [v]) hok2) ⟨rfl, rfl, rfl, rfl, rfl, trivial⟩ rfl (by kernel_rfl) (by simp)) ?_
     refine DL_nil (hK13 _ ?_)
     clear hK13; try clear K13
     refine D_splitC rfl (fun hc50 => ?_) (fun hc50 => ?_)
     ·skip
      refine D_seq fun K14 hK14 => ?_
      refine D_region ?_
      refine DL_c (op_as _ (rfl : _ = AV.v (.slice _ _ _))) ?_
      refine DL_c (op_as _ (rfl : _ = AV.v (.slice _ _ _))) ?_
      refine DL_c (asI rfl) ?_
      refine DL_nil (hK14 _ ?_)
      clear hK14; try clear K14
      refine D_ret ?_
      have e := hlop.trans (hstop hc50)
      rw [e, if_neg (by simp)] at hres
      subst hres
      exact ret3 (.inr rfl) rfl (.tmp (rfl : _ = AV.v _)) (.tmp (rfl : _ = AV.v _)) (.tmp (rfl : _ = AV.v _)) (Le.outI [((4, 8), (4, 9))] [] (.tup rfl (lv_cons .v (lv_cons .v (lv_cons .v lv_nil)))) rfl rfl rfl trivial ⟨⟨rfl, ⟨_, rfl, .box rfl (lv_cons .sl (lv_cons (lvRr rfl rfl) lv_nil))⟩, rfl⟩, ⟨rfl, ⟨_, rfl, .rowE rfl⟩, rfl⟩, trivial⟩ ⟨rfl, trivial⟩ rfl)
     ·skip
      have e := hlop.trans (hnext hc50)
      refine D_skip (hK11 _ ?_)
      clear hK11; try clear K11
      refine D_region ?_
      refine DL_c (op_mv _ (rfl : _ = AV.ptr _ _)) ?_
      refine DL_c (op_callK inferInstance (76, 0) _ _ (by repeat' (first | exact argsR_nil | refine argsR_cons ?_ ?_ | exact lvPr rfl)) (hop (ord ++ [v]) hok2) ⟨rfl, rfl, rfl, rfl, rfl, trivial⟩ rfl rfl rfl (by kernel_rfl) (by simp)) ?_
      refine DL_c (asR rfl) ?_
      refine DL_nil ?_
      refine ⟨(j, ord ++ [v]), ?_, ?_, ?_⟩
      ·exact ⟨hok2, e, by simp; omega, by simp [hho]⟩
      ·skip
       refine Le.mkJ [((66, 0), (76, 0))] [] rfl ?_ ?_ trivial ⟨rfl, trivial⟩ ?_
       ·exact ⟨(lvPr (id := (0, 9)) rfl), (lvRr rfl (by rfl)), trivial⟩
       ·exact ⟨(obB rfl rfl rfl rfl (lv_cons (by repeat' (exact Lv.fp)) (lv_cons (lvI (by rfl)) (lv_cons (lvSr (by rfl) (by rfl)) (lv_cons (by repeat' (first | exact lvPr (id := (3, 9)) rfl | refine Lv.fn rfl ?_ rfl ?_ | exact lv_nil | refine lv_cons ?_ ?_)) (lv_cons (by repeat' (exact Lv.mp)) (lv_cons (lvRr rfl (by rfl)) lv_nil))))))), (obM rfl rfl rfl (by rfl) (by rfl)), (obR rfl rfl rfl (by rfl)), (obB rfl rfl rfl rfl (lv_cons (lvSr (by rfl) (by rfl)) (lv_cons (lvRr rfl (by rfl)) lv_nil))), (obR rfl rfl rfl (by rfl)), (obR rfl rfl rfl (by rfl)), trivial⟩
       ·kernel_rfl
      ·exact Nat.lt_succ_self j
    ·skip
     have hO0 : O = [] := List.eq_nil_of_length_eq_zero (by omega)
     have e := hlop.trans (lop_done k (hO ▸ hO0))
     rw [e, if_pos rfl] at hres
     simp only at hres
     clear hO hO0 hlop e htry hop
     have hcnd := cnd_spec n P A hA hn hwA h sc st ord hok (List.length_pos_of_mem (tst_mem.2 ⟨hh, hho, hs⟩))
     have hcl : ∀ v ∈ cnd (anR n A) n ord st, v < n := fun v hv => (cnd_lt hv).1
     have hcn : (cnd (anR n A) n ord st).length ≤ n := Nat.le_trans (List.length_filter_le _ _) (tst_len n ord st 1)
     have hvl := fun (C : List Nat) (hC : ∀ v ∈ C, v < n) i => bls_inv (R := anR n A) (par := fun v => wat n P (v : Int)) (n := n) (st := st) (fun v _ p hp => hpar v p hp) (T := fun _ => True) (fun _ _ _ _ => trivial) (l := C.take i) (q := (ord, [])) (fun v hv => ⟨hC v (List.mem_of_mem_take hv), trivial⟩) hok (fun _ _ => trivial)
     generalize cnd (anR n A) n ord st = C at *
     have hvl := hvl C hcl
     obtain ⟨bst, hbst⟩ : ∃ s, s = bstep (vsF (anR n A) n (fun v => wat n P (v : Int)) st) n := ⟨_, rfl⟩
     have hbl := fun i => bls_len (vs := vsF (anR n A) n (fun v => wat n P (v : Int)) st) (n := n) (C.take i) (ord, [])
     rw [← hbst] at hres hvl hbl
     obtain ⟨Q, hQ⟩ : ∃ Q : Nat → BS, Q = fun i => (vlist bst (C.take i) (ord, [])).1 := ⟨_, rfl⟩
     have hQi : ∀ i, (vlist bst (C.take i) (ord, [])).1 = Q i := fun i => by rw [hQ]
     have hQ0 : Q 0 = (ord, []) := by rw [hQ]; rfl
     simp only [hQi] at hvl hbl
     have hsuc : ∀ i, i < C.length → (vlist bst (C.take i) (ord, [])).2 = true → vlist bst (C.take (i + 1)) (ord, []) = bst (C.getD i 0) (Q i) := fun i hi ht => by rw [vlist_succ hi ht, hQi]
     have hret : ∀ i, i < C.length → (vlist bst (C.take i) (ord, [])).2 = true → (bst (C.getD i 0) (Q i)).2 = false → res = bst (C.getD i 0) (Q i) := fun i hi ht hf => by
      have e := hsuc i hi ht
      rw [hres, vlist_stop (i := i + 1) (by rw [e]; exact hf), e]
     have hnx : ∀ i, i < C.length → (vlist bst (C.take i) (ord, [])).2 = true → (bst (C.getD i 0) (Q i)).2 = true → (vlist bst (C.take (i + 1)) (ord, [])).2 = true ∧ Q (i + 1) = (bst (C.getD i 0) (Q i)).1 := fun i hi ht hf => by
      have e := hsuc i hi ht
      refine ⟨by rw [e]; exact hf, ?_⟩
      rw [← hQi, e]
     have hend : (vlist bst (C.take C.length) (ord, [])).2 = true → res = (Q C.length, true) := fun ht => by
      rw [hres, ← hQi]
      rw [List.take_length] at ht ⊢
      exact Prod.ext rfl ht
     refine D_exit ?_
     refine id (hK7 _ ?_)
     clear hK7; try clear K7
     refine D_seq fun K15 hK15 => ?_
     refine D_region ?_
     refine DL_c (op_asN (11, 0) _ 75 2 rfl rfl) ?_
     refine DL_nil (hK15 _ ?_)
     clear hK15; try clear K15
     refine D_seq fun K16 hK16 => ?_
     refine D_seq fun K17 hK17 => ?_
     refine D_region ?_
     refine DL_c (op_mv _ (rfl : _ = AV.ptr _ _)) ?_
     refine DL_c (op_callK inferInstance (80, 0) _ _ (by repeat' (first | exact argsR_nil | refine argsR_cons ?_ ?_ | exact lvPr rfl)) (hcnd) ⟨rfl, rfl, rfl, rfl, rfl, trivial⟩ rfl rfl rfl (by kernel_rfl) (by simp)) ?_
     refine DL_c (op_lenR _ inferInstance rfl rfl) ?_
     refine DL_c (mvI rfl) ?_
     refine DL_nil (hK17 _ ?_)
     clear hK17; try clear K17
     refine D_block ?_
     refine D_loopL (α := Nat) (fun i => i ≤ C.length ∧ (vlist bst (C.take i) (ord, [])).2 = true) 78 [(9, _), (52, _), (53, _)] [((80, 0), _)] (fun i => [(54, .v (.int .i64 (i : Int))), (11, .ref (11, 0) 0 (Q i).2.length)]) (fun i => [((0, 9), .box 136 [.fp 0 (gra n P A), .v (.int .i64 (h : Int)), .sl sc.length (nsl sc), .fn (.func 73) [.ptr (3, 9) 0] [], .mp (1, 9), .ref (2, 9) 0 (Q i).1.length]), ((1, 9), .mp (ment (mmap st (Q i).1)) (mmap st (Q i).1).length), ((2, 9), .row 3 1 (nsl (Q i).1)), ((3, 9), .box 93 [.sl st.length (isl st), .ref (4, 9) 0 (Q i).1.length]), ((4, 9), .row 3 1 (nsl (Q i).1)), ((11, 0), .row 75 2 (blR (Q i).2))]) [(3, 9)] [(3, 9)] (fun i => C.length - i) 0 ?_ (by
      refine Le.mkJ [] [] rfl ?_ ?_ trivial ⟨rfl, trivial⟩ ?_
      ·exact ⟨(iP rfl), (iR rfl), (iV rfl), (lvI (by rfl)), (lvRr rfl (by (rw [hQ0] <;> rfl))), trivial⟩
      ·exact ⟨(obE rfl rfl rfl), (obB rfl rfl rfl rfl (lv_cons (by repeat' (exact Lv.fp)) (lv_cons (lvI (by rfl)) (lv_cons (lvSr (by rfl) (by rfl)) (lv_cons (by repeat' (first | exact lvPr rfl | refine Lv.fn rfl ?_ rfl ?_ | exact lv_nil | refine lv_cons ?_ ?_)) (lv_cons (by repeat' (exact Lv.mp)) (lv_cons (lvRr rfl (by (rw [hQ0] <;> rfl))) lv_nil))))))), (obM rfl rfl rfl (by (rw [hQ0] <;> rfl)) (by (rw [hQ0] <;> rfl))), (obR rfl rfl rfl (by (rw [hQ0] <;> rfl))), (obB rfl rfl rfl rfl (lv_cons (lvSr (by rfl) (by rfl)) (lv_cons (lvRr rfl (by (rw [hQ0] <;> rfl))) lv_nil))), (obR rfl rfl rfl (by (rw [hQ0] <;> rfl))), (obR rfl rfl rfl (by (rw [hQ0] <;> rfl))), trivial⟩
      ·kernel_rfl) ?_
     ·exact ⟨Nat.zero_le _, rfl⟩
     intro i hi
     obtain ⟨hi, ht⟩ := hi
     obtain ⟨hk1, _, _⟩ := hvl i
     have hk1l := hk1.len
     have hQl := hbl i ht
     rw [List.length_take, Nat.min_eq_left hi] at hQl
     have hQs := hret i
     have hQn := hnx i
     obtain ⟨o, hoq⟩ : ∃ o, o = (Q i).1 := ⟨_, rfl⟩
     obtain ⟨u, huq⟩ : ∃ u, u = (Q i).2 := ⟨_, rfl⟩
     have hou : Q i = (o, u) := Prod.ext hoq.symm huq.symm
     rw [hou] at hQs hQn
     rw [← hoq] at hk1 hk1l
     rw [← huq] at hQl
     simp only [List.length_nil, Nat.zero_add] at hQl
     rw [← hoq, ← huq]
     refine D_seq fun K18 hK18 => ?_
     refine D_region ?_
     refine DL_c (op_lss _ _ rfl rfl rfl) ?_
     refine DL_nil (hK18 _ ?_)
     clear hK18; try clear K18
     refine D_seq fun K19 hK19 => ?_
     refine D_splitC rfl (fun hc55 => ?_) (fun hc55 => ?_)
     ·skip
      obtain ⟨v, hv⟩ : ∃ v, v = C.getD i 0 := ⟨_, rfl⟩
      have hvn : v < n := hv ▸ hcl _ (getD_mem (by omega))
      have hQs := hQs (by omega) ht
      have hQn := hQn (by omega) ht
      rw [← hv] at hQs hQn
      have hsu := sus_spec n P A hP hA hn hwP hwA hpar h sc st h1 o hk1 v hvn
      have hbs : bst v (o, u) = if (vsF (anR n A) n (fun v => wat n P (v : Int)) st v (o, [])).2 = true then (((vsF (anR n A) n (fun v => wat n P (v : Int)) st v (o, [])).1.1, u ++ [(v, fil n (vsF (anR n A) n (fun v => wat n P (v : Int)) st v (o, [])).1.2)]), true) else (((vsF (anR n A) n (fun v => wat n P (v : Int)) st v (o, [])).1.1, u), false) := by rw [hbst]; rfl
      generalize vsF (anR n A) n (fun v => wat n P (v : Int)) st v (o, []) = r at hsu hbs
      obtain ⟨⟨ro, ru⟩, rb⟩ := r
      simp only at hsu hbs
      generalize fil n ru = fu at hsu hbs
      refine D_skip (hK19 _ ?_)
      clear hK19; try clear K19
      refine D_seq fun K20 hK20 => ?_
      refine D_block ?_
      refine D_seq fun K21 hK21 => ?_
      refine D_region ?_
      refine DL_c (op_ixR _ _ inferInstance rfl rfl rfl _ rfl (by omega) (by exact (Nat.zero_add _).trans (Nat.mul_one _))) ?_
      refine DL_c (op_ldR _ inferInstance rfl rfl (by exact (nsl_get _ _ (by omega)).trans (by rw [← hv])) rfl) ?_
      refine DL_c (asI rfl) ?_
      refine DL_nil (hK21 _ ?_)
      clear hK21; try clear K21
      refine D_seq fun K22 hK22 => ?_
      refine D_region ?_
      refine DL_c (op_mv _ (rfl : _ = AV.ptr _ _)) ?_
      refine DL_c (mvI rfl) ?_
      refine DL_c (op_callP inferInstance [((2, 8), (82, 0)), ((4, 8), (84, 0)), ((0, 8), (88, 0))] ?_ (hsu) (insK ⟨rfl, rfl, rfl, rfl, rfl, trivial⟩ rfl rfl) ⟨rfl, rfl, rfl, rfl, rfl, rfl, trivial⟩ (by kernel_rfl)) ?_
      ·repeat' (first | exact argsR_nil | refine argsR_cons ?_ ?_ | exact Lv.v | exact lvPr rfl)
      refine DL_c (op_mv _ (rfl : _ = AV.tup _)) ?_
      refine DL_c (op_ext _ rfl (rfl : _ = some (AV.ref _ _ _))) ?_
      refine DL_c (op_ext _ rfl (rfl : _ = some (AV.v (.bool _)))) ?_
      refine DL_c (asR rfl) ?_
      refine DL_c (asB rfl) ?_
      refine DL_nil (hK22 _ ?_)
      clear hK22; try clear K22
      refine D_seq fun K23 hK23 => ?_
      refine D_seq fun K24 hK24 => ?_
      refine D_region ?_
      refine DL_c (mvB rfl) ?_
      refine DL_c (op_not _ rfl rfl) ?_
      refine DL_nil (hK24 _ ?_)
      clear hK24; try clear K24
      refine D_splitC rfl (fun hc65 => ?_) (fun hc65 => ?_)
      ·skip
       refine D_seq fun K25 hK25 => ?_
       refine D_region ?_
       refine DL_c (op_as _ (rfl : _ = AV.v (.slice _ _ _))) ?_
       refine DL_c (op_as _ (rfl : _ = AV.v (.slice _ _ _))) ?_
       refine DL_c (asI rfl) ?_
       refine DL_nil (hK25 _ ?_)
       clear hK25; try clear K25
       refine D_ret ?_
       rw [hc65, if_neg (by simp)] at hbs
       rw [hbs] at hQs
       have hr := hQs rfl
       subst hr
       exact ret3 (.inr rfl) rfl (.tmp (rfl : _ = AV.v _)) (.tmp (rfl : _ = AV.v _)) (.tmp (rfl : _ = AV.v _)) (Le.outI [((4, 8), (84, 0))] [] (.tup rfl (lv_cons .v (lv_cons .v (lv_cons .v lv_nil)))) rfl rfl rfl trivial ⟨⟨rfl, ⟨_, rfl, .box rfl (lv_cons .sl (lv_cons (lvRr rfl rfl) lv_nil))⟩, rfl⟩, ⟨rfl, ⟨_, rfl, .rowE rfl⟩, rfl⟩, trivial⟩ ⟨rfl, trivial⟩ rfl)
      ·skip
       rw [hc65, if_pos rfl] at hbs
       rw [hbs] at hQn
       have hq := hQn rfl
       refine D_skip (hK23 _ ?_)
       clear hK23; try clear K23
       refine D_le (Le.frzS 14 (ys := nsl fu) (rfl : _ = AV.ref _ _ _) rfl rfl (by rw [List.drop_zero, Nat.mul_one, List.take_of_length_le (by simp)]) (by simp)) ?_
       refine D_region ?_
       refine DL_c (mvR rfl) ?_
       refine DL_c (mvI rfl) ?_
       refine DL_c (mvS rfl) ?_
       refine DL_c (op_build _ inferInstance rfl (by exact (rfl : _ = some [_, _]))) ?_
       refine DL_c (op_bsF _ _ inferInstance rfl (by rfl) (by simp <;> rfl) (by decide) rfl) ?_
       refine DL_c (op_ap (71, 0) _ _ inferInstance rfl rfl (by rw [blR_len]) (.sl rfl) (by omega) rfl (blR_app _ _ _) (show u.length + 1 = (u ++ [(v, fu)]).length by simp)) ?_
       refine DL_c (asR rfl) ?_
       refine DL_nil (hK20 _ ?_)
       clear hK20; try clear K20
       refine D_le (σ' := mkStI 78 [(9, _), (11, _), (52, _), (53, _), (54, _)] [((80, 0), _), ((0, 9), _), ((1, 9), _), ((3, 9), _), ((82, 0), _), ((84, 0), _), ((71, 0), _)] [(3, 9)] [(3, 9)]) (by
        refine Le.mkJ [] [] rfl ?_ ?_ trivial ⟨rfl, trivial⟩ ?_
        ·exact ⟨(iP rfl), (iR rfl), (iR rfl), (iV rfl), (iV rfl), trivial⟩
        ·exact ⟨(obE rfl rfl rfl), (obE rfl rfl rfl), (obE rfl rfl rfl), (obE rfl rfl rfl), (obE rfl rfl rfl), (obE rfl rfl rfl), (obE rfl rfl rfl), trivial⟩
        ·kernel_rfl) ?_
       refine D_region ?_
       refine DL_c (op_add _ _ rfl rfl (i64w (by omega))) ?_
       refine DL_c (mvI rfl) ?_
       refine DL_nil ?_
       refine ⟨i + 1, ?_, ?_, ?_⟩
       ·exact ⟨by omega, hq.1⟩
       ·skip
        refine Le.mkJ [((11, 0), (71, 0)), ((2, 9), (82, 0)), ((4, 9), (84, 0))] [] rfl ?_ ?_ trivial ⟨rfl, trivial⟩ ?_
        ·exact ⟨(lvPr (id := (0, 9)) rfl), (lvRr (id := (80, 0)) rfl rfl), (by repeat' (exact Lv.v)), (lvI (by rfl)), (lvRr rfl (by (rw [hq.2]))), trivial⟩
        ·exact ⟨(by exact obR rfl rfl rfl rfl), (obB rfl rfl rfl rfl (lv_cons (by repeat' (exact Lv.fp)) (lv_cons (lvI (by rfl)) (lv_cons (lvSr (by rfl) (by rfl)) (lv_cons (by repeat' (first | exact lvPr (id := (3, 9)) rfl | refine Lv.fn rfl ?_ rfl ?_ | exact lv_nil | refine lv_cons ?_ ?_)) (lv_cons (by repeat' (exact Lv.mp)) (lv_cons (lvRr rfl (by (rw [hq.2]))) lv_nil))))))), (obM rfl rfl rfl (by (rw [hq.2])) (by (rw [hq.2]))), (obR rfl rfl rfl (by (rw [hq.2]))), (obB rfl rfl rfl rfl (lv_cons (lvSr (by rfl) (by rfl)) (lv_cons (lvRr rfl (by (rw [hq.2]))) lv_nil))), (obR rfl rfl rfl (by (rw [hq.2]))), (obR rfl rfl rfl (by (rw [hq.2]))), trivial⟩
        ·kernel_rfl
       ·omega
     ·skip
      obtain rfl : i = C.length := by omega
      have hr := hend ht
      rw [hou] at hr
      subst hr
      refine D_exit ?_
      refine id (hK16 _ ?_)
      clear hK16; try clear K16
      refine D_seq fun K26 hK26 => ?_
      refine D_anyL 8 [73, 74, 75, 76, 77, 6, 7, 8] [] (by kernel_rfl) (by kernel_rfl) rfl (nodupO_iff rfl) (rfl : _ = [_, _, _, _, _, _, _, _]) (rfl : _ = []) ?_
      refine any_c (_, []) (fun τ => op_mv _ (rfl : _ = AV.ref _ _ _)) ?_
      refine any_n (rfl : _ = [_]) ?_
      refine any_c (_, []) (fun τ => op_mv _ (rfl : _ = AV.ptr _ _)) ?_
      refine any_n (rfl : _ = [_, _]) ?_
      refine any_c (_, []) (fun τ => op_nilp _ rfl rfl) ?_
      refine any_n (rfl : _ = [_, _, _]) ?_
      refine any_c (_, []) (fun τ => op_fldP _ inferInstance rfl rfl rfl) ?_
      refine any_n (rfl : _ = [_, _, _, _]) ?_
      refine any_c (_, []) (fun τ => op_ldB _ inferInstance rfl rfl (rfl : _ = some (AV.ref _ _ _))) ?_
      refine any_n (rfl : _ = [_, _, _, _, _]) ?_
      refine any_c (_, []) (fun τ => op_as _ (rfl : _ = AV.ref _ _ _)) ?_
      refine any_n (rfl : _ = [_, _, _, _, _, _]) ?_
      refine any_c (_, []) (fun τ => op_as _ (rfl : _ = AV.ref _ _ _)) ?_
      refine any_n (rfl : _ = [_, _, _, _, _, _, _]) ?_
      refine any_c (_, []) (fun τ => op_as _ (rfl : _ = AV.v (.int _ _))) ?_
      refine any_n (rfl : _ = [_, _, _, _, _, _, _, _]) ?_
      refine any_end ⟨rfl, ?_⟩
      refine DL_nil (hK26 _ ?_)
      clear hK26; try clear K26
      refine D_ret ?_
      exact ret3 (.inr rfl) rfl (.tmp (rfl : _ = AV.ref _ _ _)) (.tmp (rfl : _ = AV.ref _ _ _)) (.tmp (rfl : _ = AV.v _)) (Le.outI [((4, 8), (4, 9)), ((0, 8), (11, 0)), ((2, 8), (2, 9))] [] (.tup rfl (lv_cons (lvRr rfl rfl) (lv_cons (lvRr rfl rfl) (lv_cons .v lv_nil)))) rfl rfl rfl trivial ⟨⟨rfl, ⟨_, rfl, .box rfl (lv_cons .sl (lv_cons (lvRr rfl rfl) lv_nil))⟩, rfl⟩, ⟨rfl, ⟨_, rfl, .rowE rfl⟩, rfl⟩, ⟨rfl, ⟨_, rfl, .rowE rfl⟩, rfl⟩, ⟨rfl, ⟨_, rfl, .rowE rfl⟩, rfl⟩, trivial⟩ ⟨rfl, trivial⟩ rfl)

end Go.Proofs.Ytkbkmngbenohkaa

namespace Go.Proofs.Ytkbkmngbenohkaa
open Go.RowKit

structure GR (n : Nat) (R : Rl) (par : Nat → List Nat) : Prop where
 lt : ∀ {a v}, R a v = true → a < n ∧ v < n
 refl : ∀ {v}, v < n → R v v = true
 trans : ∀ {a b c}, R a b = true → R b c = true → R a c = true
 le : ∀ {a b}, R a b = true → a ≤ b
 par : ∀ {v p}, p ∈ par v → R p v = true
def Inh (R : Rl) (st : List Int) : Prop := ∀ b g, R b g = true → nst st b = 1 → nst st g ≠ 0
section
variable {n : Nat} {R : Rl} {par : Nat → List Nat} {st : List Int} {h : Nat}
abbrev scp (R : Rl) (n h : Nat) : List Nat := (List.range n).filter fun u => R u h
theorem Inh.con (hI : Inh R st) (o : List Nat) : con R n o st = false := by
 unfold Go.Proofs.Ytkbkmngbenohkaa.con
 rw [List.any_eq_false]
 intro g hg
 rw [Bool.not_eq_true, List.any_eq_false]
 intro b hb hr
 exact hI b g hr (tst_mem.1 hb).2.2 (tst_mem.1 hg).2.2
end
end Go.Proofs.Ytkbkmngbenohkaa

namespace Go.Proofs.Ytkbkmngbenohkaa
open Go.RowKit

section
variable {n : Nat} {Ps : List (List Int)}
theorem anR_iff (hPs : Ps.length = n) {a v : Nat} : anR n (ancW n (edg Ps n 0)) a v = true ↔ a ∈ upE Ps v := by
 subst hPs
 unfold anR upE
 rw [decide_eq_true_eq]
theorem upE_out (hPs : Ps.length = n) {a v : Nat} (h : a ∈ upE Ps v) : v < n := by
 subst hPs
 unfold upE wat at h
 split at h
 ·omega
 ·simp at h
theorem wat_par (hPs : Ps.length = n) (h64 : n ≤ 64) (hV : Valid Ps) {v p : Nat} : p ∈ wat n (parW Ps) (v : Int) ↔ v < n ∧ ((p : Int), (v : Int)) ∈ edg Ps n 0 := by
 subst hPs
 have hW := parW_pw hV h64
 unfold wat
 by_cases hv : v < Ps.length
 ·rw [if_pos (by omega), Int.toNat_natCast, els_mem, hW.m v hv]
  refine ⟨fun h => ⟨hv, h.2⟩, fun h => ⟨?_, h.2⟩⟩
  obtain ⟨u, hu, h1, h2⟩ := edg_mem.1 h.2
  have := (hV u hu).2 _ h2
  simp only at this
  omega
 ·rw [if_neg (by omega)]
  simp [hv]
theorem gr_of (hPs : Ps.length = n) (h64 : n ≤ 64) (hV : Valid Ps) (hlt : ∀ {a b : Nat}, Clo (edg Ps n 0) a b → a < b) : GR n (anR n (ancW n (edg Ps n 0))) (fun v => wat n (parW Ps) (v : Int)) := by
 refine ⟨fun {a v} h => ?_, fun {v} hv => ?_, fun {a b c} h1 h2 => ?_, fun {a b} h => ?_, fun {v p} h => ?_⟩
 ·rw [anR_iff hPs] at h
  have hv := upE_out hPs h
  subst hPs
  exact ⟨((upE_mem h64 hv).1 h).1, hv⟩
 ·rw [anR_iff hPs]
  subst hPs
  exact (upE_mem h64 hv).2 ⟨hv, .inl rfl⟩
 ·rw [anR_iff hPs] at h1 h2 ⊢
  have hb := upE_out hPs h1
  have hc := upE_out hPs h2
  subst hPs
  exact upE_trans h64 hb hc h1 h2
 ·rw [anR_iff hPs] at h
  have hb := upE_out hPs h
  subst hPs
  rcases ((upE_mem h64 hb).1 h).2 with rfl | h
  ·exact Nat.le_refl _
  ·exact Nat.le_of_lt (hlt h)
 ·obtain ⟨hv, he⟩ := (wat_par hPs h64 hV).1 h
  rw [anR_iff hPs]
  subst hPs
  have hc : Clo (edg Ps Ps.length 0) p v := .one he
  have := hlt hc
  exact (upE_mem h64 hv).2 ⟨by omega, .inr hc⟩
theorem nst_eq {st : List Int} (h012 : ∀ v, v < n → st.getD v 0 = 0 ∨ st.getD v 0 = 1 ∨ st.getD v 0 = 2) (hst : st.length = n) {v : Nat} (hv : v < n) : nst st v = st.getD v 0 := by
 have e : st.getD v 2 = st.getD v 0 := by
  rw [List.getD_eq_getElem?_getD, List.getD_eq_getElem?_getD, List.getElem?_eq_getElem (by omega)]; rfl
 unfold nst
 rw [e]
 rcases h012 v hv with h | h | h <;> rw [h] <;> decide
theorem scp_up (hPs : Ps.length = n) (h64 : n ≤ 64) {h : Nat} (hh : h < n) : scp (anR n (ancW n (edg Ps n 0))) n h = upE Ps h := by
 have e : ∀ u, anR n (ancW n (edg Ps n 0)) u h = decide (u ∈ upE Ps h) := fun u => by rw [Bool.eq_iff_iff, anR_iff hPs, decide_eq_true_eq]
 unfold scp
 subst hPs
 conv => rhs; rw [upE_eq h64 hh]
 refine List.filter_congr fun u hu => ?_
 have hun := List.mem_range.1 hu
 rw [e, Bool.eq_iff_iff, decide_eq_true_eq, upE_mem h64 hh]
 simp only [Bool.or_eq_true, decide_eq_true_eq, cl_iff]
 exact ⟨fun h => h.2, fun h => ⟨hun, h⟩⟩
end
end Go.Proofs.Ytkbkmngbenohkaa

namespace Go.Proofs.Ytkbkmngbenohkaa
open Go.RowKit

/-! ### Bounds -/
/-! ### Chains -/
def chM (n : Nat) : List (List Int) := (List.range n).map fun (v : Nat) => if v = 0 then ([] : List Int) else [(v : Int) - 1]
@[simp] theorem chM_len (n : Nat) : (chM n).length = n := by simp [chM]
theorem chM_get {n v : Nat} (h : v < n) : (chM n).getD v [] = if v = 0 then [] else [(v : Int) - 1] := by simp [chM, List.getD_eq_getElem?_getD, h]
theorem chM_succ (n : Nat) : chM (n + 1) = chM n ++ [if n = 0 then [] else [(n : Int) - 1]] := by simp [chM, List.range_succ]
theorem chain_spec (n : Nat) (hn : n ≤ 1000) : Spec Try.prog 77 (inSt [.v (.int .i64 (n : Int))] []) (outSt (.sl n (nrows (chM n))) []) := by
 refine Spec.ofN Try.func77 rfl Try.ntmps77 rfl ?_
 refine D_seq fun K1 hK1 => ?_
 refine D_region ?_
 refine DL_c (op_as _ (rfl : _ = AV.v (.slice _ _ _))) ?_
 refine DL_nil (hK1 _ ?_)
 clear hK1; try clear K1
 refine D_seq fun K2 hK2 => ?_
 refine D_region ?_
 refine DL_c (op_asN (3, 0) _ 29 1 rfl rfl) ?_
 refine DL_nil (hK2 _ ?_)
 clear hK2; try clear K2
 refine D_seq fun K3 hK3 => ?_
 refine D_seq fun K4 hK4 => ?_
 refine D_region ?_
 refine DL_c (asI rfl) ?_
 refine DL_nil (hK4 _ ?_)
 clear hK4; try clear K4
 refine D_block ?_
 refine D_loopL (α := Nat) (fun v => v ≤ n) 23 [(0, _)] [] (fun v => [(4, .v (.int .i64 (v : Int))), (3, .ref (3, 0) 0 v)]) (fun v => [((3, 0), .row 29 1 (nrows (chM v)))]) [] [] (fun v => n - v) 0 ?_ (by
  refine Le.mkJ [] [] rfl ?_ ?_ trivial trivial ?_
  ·exact ⟨(iV rfl), (lvI (by rfl)), (lvRr rfl (by rfl)), trivial⟩
  ·exact ⟨(obR rfl rfl rfl (by rfl)), trivial⟩
  ·kernel_rfl) ?_
 ·omega
 intro v hv
 refine D_seq fun K5 hK5 => ?_
 refine D_seq fun K6 hK6 => ?_
 refine D_region ?_
 refine DL_c (mvI rfl) ?_
 refine DL_c (mvI rfl) ?_
 refine DL_c (op_lss _ _ rfl rfl rfl) ?_
 refine DL_nil (hK6 _ ?_)
 clear hK6; try clear K6
 refine D_splitC rfl (fun hc8 => ?_) (fun hc8 => ?_)
 ·skip
  refine D_skip (hK5 _ ?_)
  clear hK5; try clear K5
  refine D_seq fun K7 hK7 => ?_
  refine D_block ?_
  refine D_seq fun K8 hK8 => ?_
  refine D_region ?_
  refine DL_c (op_asN (5, 0) _ 3 1 rfl rfl) ?_
  refine DL_nil (hK8 _ ?_)
  clear hK8; try clear K8
  refine D_seq fun K9 hK9 => ?_
  refine D_seq fun K10 hK10 => ?_
  refine D_region ?_
  refine DL_c (mvI rfl) ?_
  refine DL_c (op_gtr _ _ rfl rfl rfl) ?_
  refine DL_nil (hK10 _ ?_)
  clear hK10; try clear K10
  refine D_splitC rfl (fun hc12 => ?_) (fun hc12 => ?_)
  ·skip
   have hnx : nrows (chM (v + 1)) = nrows (chM v) ++ [.sl 1 (isl [(v : Int) - 1])] := by rw [chM_succ, if_neg (by omega)]; simp [nrows]
   refine D_region ?_
   refine DL_c (mvR rfl) ?_
   refine DL_c (mvI rfl) ?_
   refine DL_c (op_sub _ _ rfl rfl (i64w (by omega))) ?_
   refine DL_c (op_bsF _ _ inferInstance rfl (by rfl) (by simp <;> rfl) (by decide) rfl) ?_
   refine DL_c (op_ap (17, 0) _ _ inferInstance rfl rfl (by rfl) (by (refine .sl ?_; (simp [isl]; done))) (by omega) rfl (rfl) (rfl)) ?_
   refine DL_c (asR rfl) ?_
   refine DL_nil (hK9 _ ?_)
   clear hK9; try clear K9
   refine D_le (Le.frzS (ys := isl [(v : Int) - 1]) 5 rfl rfl rfl (by rfl) (by simp)) ?_
   refine D_region ?_
   refine DL_c (mvR rfl) ?_
   refine DL_c (mvS rfl) ?_
   refine DL_c (op_bsF _ _ inferInstance rfl (by rfl) (by simp <;> rfl) (by decide) rfl) ?_
   refine DL_c (op_ap (21, 0) _ _ inferInstance rfl rfl (by (simp; done)) (by (refine .sl ?_; (simp [isl]; done))) (by omega) rfl (rfl) (rfl)) ?_
   refine DL_c (asR rfl) ?_
   refine DL_nil (hK7 _ ?_)
   clear hK7; try clear K7
   refine D_le (σ' := mkStI 23 [(0, _), (3, _), (4, _)] [((21, 0), _)] [] []) (by
    refine Le.mkJ [] [] rfl ?_ ?_ trivial trivial ?_
    ·exact ⟨(iV rfl), (iR rfl), (iV rfl), trivial⟩
    ·exact ⟨(obE rfl rfl rfl), trivial⟩
    ·kernel_rfl) ?_
   refine D_region ?_
   refine DL_c (mvI rfl) ?_
   refine DL_c (op_add _ _ rfl rfl (i64w (by omega))) ?_
   refine DL_c (asI rfl) ?_
   refine DL_nil ?_
   refine ⟨v + 1, ?_, ?_, ?_⟩
   ·omega
   ·skip
    refine Le.mkJ [((3, 0), (21, 0))] [] rfl ?_ ?_ trivial trivial ?_
    ·exact ⟨(by repeat' (exact Lv.v)), (lvI (by rfl)), (lvRr rfl (by rfl)), trivial⟩
    ·exact ⟨(obR rfl rfl rfl (by rw [hnx])), trivial⟩
    ·kernel_rfl
   ·omega
  ·skip
   have hnx : nrows (chM (v + 1)) = nrows (chM v) ++ [.sl 0 (isl [])] := by rw [chM_succ, if_pos (by omega)]; simp [nrows]
   refine D_skip (hK9 _ ?_)
   clear hK9; try clear K9
   refine D_le (Le.frzS (ys := isl []) 5 rfl rfl rfl (by rfl) (by simp)) ?_
   refine D_region ?_
   refine DL_c (mvR rfl) ?_
   refine DL_c (mvS rfl) ?_
   refine DL_c (op_bsF _ _ inferInstance rfl (by rfl) (by simp <;> rfl) (by decide) rfl) ?_
   refine DL_c (op_ap (21, 0) _ _ inferInstance rfl rfl (by (simp; done)) (by (refine .sl ?_; (simp [isl]; done))) (by omega) rfl (rfl) (rfl)) ?_
   refine DL_c (asR rfl) ?_
   refine DL_nil (hK7 _ ?_)
   clear hK7; try clear K7
   refine D_region ?_
   refine DL_c (mvI rfl) ?_
   refine DL_c (op_add _ _ rfl rfl (i64w (by omega))) ?_
   refine DL_c (asI rfl) ?_
   refine DL_nil ?_
   refine ⟨v + 1, ?_, ?_, ?_⟩
   ·omega
   ·skip
    refine Le.mkJ [((3, 0), (21, 0))] [] rfl ?_ ?_ trivial trivial ?_
    ·exact ⟨(by repeat' (exact Lv.v)), (lvI (by rfl)), (lvRr rfl (by rfl)), trivial⟩
    ·exact ⟨(obR rfl rfl rfl (by rw [hnx])), trivial⟩
    ·kernel_rfl
   ·omega
 ·skip
  refine D_exit ?_
  refine id (hK3 _ ?_)
  clear hK3; try clear K3
  refine D_seq fun K11 hK11 => ?_
  refine D_region ?_
  refine DL_c (mvR rfl) ?_
  refine DL_c (asR rfl) ?_
  refine DL_nil (hK11 _ ?_)
  clear hK11; try clear K11
  refine D_ret ?_
  obtain rfl : v = n := by omega
  exact ret1 (.inr rfl) rfl (.tmp (rfl : _ = AV.ref _ _ _)) (Le.out [] [(3, 0)] (frz0 rfl rfl (by simp) rfl) rfl rfl rfl ⟨rfl, trivial⟩ trivial)
theorem chM_edg {n a b : Nat} : ((a : Int), (b : Int)) ∈ edg (chM n) n 0 ↔ b < n ∧ a + 1 = b := by
 rw [edg_mem]
 constructor
 ·rintro ⟨v, hv, h1, h2⟩
  rw [chM_get hv] at h2
  simp only at h1 h2
  split at h2
  ·simp at h2
  ·simp at h2; omega
 ·rintro ⟨h1, h2⟩
  refine ⟨b, h1, rfl, ?_⟩
  rw [chM_get h1, if_neg (by omega)]
  simp; omega
theorem chM_valid (n : Nat) : Valid (chM n) := by
 intro v hv
 rw [chM_len] at hv
 rw [chM_get hv, chM_len]
 split
 ·exact ⟨List.nodup_nil, fun p hp => by simp at hp⟩
 ·exact ⟨by simp, fun p hp => by simp at hp; omega⟩
theorem chM_clo {n a b : Nat} : Clo (edg (chM n) n 0) a b ↔ a < b ∧ b < n := by
 constructor
 ·intro h
  induction h with
  | one h => have := chM_edg.1 h; omega
  | more h _ ih => have := chM_edg.1 h; omega
 ·rintro ⟨h1, h2⟩
  obtain ⟨d, rfl⟩ : ∃ d, b = a + d + 1 := ⟨b - a - 1, by omega⟩
  induction d generalizing a with
  | zero => exact .one (chM_edg.2 ⟨h2, rfl⟩)
  | succ d ih => exact .more (chM_edg.2 ⟨by omega, rfl⟩ : ((a : Int), ((a + 1 : Nat) : Int)) ∈ _) (by
    have := ih (a := a + 1) (by omega) (by omega)
    rwa [show a + 1 + d + 1 = a + (d + 1) + 1 by omega] at this)
theorem chM_lt {n a b : Nat} (h : Clo (edg (chM n) n 0) a b) : a < b := (chM_clo.1 h).1
theorem chM_acyc (n : Nat) : ¬ ∃ a, a < (chM n).length ∧ Clo (edg (chM n) (chM n).length 0) a a := fun ⟨a, _, h⟩ => by
 rw [chM_len] at h; exact Nat.lt_irrefl _ (chM_lt h)
theorem chM_R {n : Nat} (hn : n ≤ 64) (a v : Nat) : anR n (ancW n (edg (chM n) n 0)) a v = (decide (a ≤ v) && decide (v < n)) := by
 rw [Bool.eq_iff_iff, anR_iff (chM_len n), Bool.and_eq_true, decide_eq_true_eq, decide_eq_true_eq]
 constructor
 ·intro h
  have hv := upE_out (chM_len n) h
  have h2 := (upE_mem (by rw [chM_len]; exact hn) (by rw [chM_len]; exact hv)).1 h
  rw [chM_len, chM_clo] at h2
  omega
 ·rintro ⟨h1, h2⟩
  refine (upE_mem (by rw [chM_len]; exact hn) (by rw [chM_len]; exact h2)).2 ?_
  rw [chM_len, chM_clo]
  omega
theorem chM_up {n h : Nat} (hn : n ≤ 64) (hh : h < n) : upE (chM n) h = List.range (h + 1) := by
 rw [← scp_up (chM_len n) hn hh]
 unfold scp
 obtain ⟨d, rfl⟩ : ∃ d, n = (h + 1) + d := ⟨n - (h + 1), by omega⟩
 rw [List.range_add, List.filter_append, List.filter_eq_self.2, List.filter_eq_nil_iff.2, List.append_nil]
 ·intro u hu
  rw [List.mem_map] at hu
  obtain ⟨x, _, rfl⟩ := hu
  rw [chM_R hn]; simp; omega
 ·intro u hu
  have := List.mem_range.1 hu
  rw [chM_R hn]; simp; omega
theorem newC_spec (n : Nat) (hn : n ≤ 64) : Spec Try.prog 58 (inSt [.sl n (nrows (chM n))] []) (outSt (.tup [.fp 0 (gra n (parW (chM n)) (ancW n (edg (chM n) n 0))), .v (.int .i64 0)]) []) := by
 have hN := vnew_spec n (chM n) (chM_len n) (by omega) (fun v => by
  by_cases hv : v < n
  ·rw [chM_get hv]; split <;> simp
  ·rw [List.getD_eq_getElem?_getD, List.getElem?_eq_none (by rw [chM_len]; omega)]; simp) fun hV _ a _ => by
  have := nxt_edg (Ps := chM n) a n fun v hv => (hV v (by rw [chM_len]; exact hv)).1
  rw [this, List.length_map]
  exact Nat.le_trans (filter_few (a := a) (m := 1) _ fun v hp => by
   rw [decide_eq_true_eq] at hp
   by_cases hv : v < n
   ·rw [chM_get hv] at hp
    split at hp
    ·simp at hp
    ·simp at hp; omega
   ·rw [List.getD_eq_getElem?_getD, List.getElem?_eq_none (by rw [chM_len]; omega)] at hp; simp at hp) (by decide)
 rw [newV_ok (by rw [chM_len]; omega) (chM_valid n) (chM_acyc n), chM_len] at hN
 exact hN
theorem same33_spec (n m : Nat) (L M : List (Nat × List Nat)) (hL : L.length = n) (hM : M.length = m) (h1 : n ≤ 1000) (h2 : m ≤ 1000) (h3 : ∀ i, (L.getD i (0, [])).2.length ≤ 1000) (h4 : ∀ i, (M.getD i (0, [])).2.length ≤ 1000) :
  Spec Try.prog 75 (inSt [.sl n (blR L), .sl m (blR M)] []) (outSt (.v (.bool (decide (L = M)))) []) := by
 subst hL; subst hM
 refine Spec.ofN Try.func75 rfl Try.ntmps75 rfl ?_
 refine D_seq fun K1 hK1 => ?_
 refine D_region ?_
 refine DL_c (asB rfl) ?_
 refine DL_nil (hK1 _ ?_)
 clear hK1; try clear K1
 refine D_seq fun K2 hK2 => ?_
 refine D_seq fun K3 hK3 => ?_
 refine D_region ?_
 refine DL_c (mvS rfl) ?_
 refine DL_c (op_lenS _ inferInstance rfl) ?_
 refine DL_c (mvS rfl) ?_
 refine DL_c (op_lenS _ inferInstance rfl) ?_
 refine DL_c (op_neq _ _ rfl rfl rfl) ?_
 refine DL_nil (hK3 _ ?_)
 clear hK3; try clear K3
 refine D_splitC rfl (fun hc10 => ?_) (fun hc10 => ?_)
 ·skip
  refine D_seq fun K4 hK4 => ?_
  refine D_region ?_
  refine DL_c (asB rfl) ?_
  refine DL_nil (hK4 _ ?_)
  clear hK4; try clear K4
  refine D_ret ?_
  refine ret1 (.inr rfl) rfl (.tmp (rfl : _ = AV.v (.bool _))) (Le.out [] [] (lvB ?_) rfl rfl rfl trivial trivial)
  exact decide_eq_false fun h => by subst h; omega
 ·skip
  refine D_skip (hK2 _ ?_)
  clear hK2; try clear K2
  refine D_seq fun K5 hK5 => ?_
  refine D_seq fun K6 hK6 => ?_
  refine D_region ?_
  refine DL_c (asI rfl) ?_
  refine DL_nil (hK6 _ ?_)
  clear hK6; try clear K6
  refine D_block ?_
  refine D_loopL (α := Nat) (fun k => k ≤ L.length ∧ L.length = M.length ∧ L.take k = M.take k) 42 [(0, _), (1, _)] [] (fun k => [(5, .v (.int .i64 (k : Int)))]) (fun k => []) [] [] (fun k => L.length - k) 0 ?_ (by
   refine Le.mkJ [] [] rfl ?_ ?_ trivial trivial ?_
   ·exact ⟨(iS rfl), (iS rfl), (lvI (by rfl)), trivial⟩
   ·exact trivial
   ·kernel_rfl) ?_
  ·exact ⟨by omega, by omega, rfl⟩
  intro k hk
  obtain ⟨hk, hl, ht⟩ := hk
  refine D_seq fun K7 hK7 => ?_
  refine D_seq fun K8 hK8 => ?_
  refine D_region ?_
  refine DL_c (mvI rfl) ?_
  refine DL_c (mvS rfl) ?_
  refine DL_c (op_lenS _ inferInstance rfl) ?_
  refine DL_c (op_lss _ _ rfl rfl rfl) ?_
  refine DL_nil (hK8 _ ?_)
  clear hK8; try clear K8
  refine D_splitC rfl (fun hc14 => ?_) (fun hc14 => ?_)
  ·skip
   have hkx : k < L.length := by omega
   have hky : k < M.length := by omega
   have h3k := h3 k
   have h4k := h4 k
   refine D_skip (hK7 _ ?_)
   clear hK7; try clear K7
   refine D_seq fun K9 hK9 => ?_
   refine D_block ?_
   refine D_seq fun K10 hK10 => ?_
   refine D_le (σ' := mkStI 42 [(0, _), (1, _), (5, _)] [] [] []) (by
    refine Le.mkJ [] [] rfl ?_ ?_ trivial trivial ?_
    ·exact ⟨(iS rfl), (iS rfl), (iV rfl), trivial⟩
    ·exact trivial
    ·kernel_rfl) ?_
   refine D_anyL 25 [17, 18, 19, 20, 21, 22, 23, 24, 25, 26, 27, 28, 29, 30, 31, 32, 33, 34, 35, 36, 37, 38, 39, 40, 41] [] (by kernel_rfl) (by kernel_rfl) rfl (nodupO_iff rfl) (rfl : _ = [_, _, _, _, _, _, _, _, _, _, _, _, _, _, _, _, _, _, _, _, _, _, _, _, _]) (rfl : _ = []) ?_
   refine any_c (_, []) (fun τ => op_mv _ (rfl : _ = AV.sl _ _)) ?_
   refine any_n (rfl : _ = [_]) ?_
   refine any_c (_, []) (fun τ => op_mv _ (rfl : _ = AV.v (.int _ _))) ?_
   refine any_n (rfl : _ = [_, _]) ?_
   refine any_c (_, []) (fun τ => op_ixS _ _ inferInstance rfl rfl _ rfl (by omega) (by (simp only [isl_len, bsl_len, psl_len, mrows_len, nsl_len, ws_len, List.length_map, ul_len, psl_len, isl_len, nrows_len, mmap_len, smap_len, dcl_len, blR_len]; omega)) (by rfl)) ?_
   refine any_n (rfl : _ = [_, _, _]) ?_
   refine any_c (_, []) (fun τ => op_fldF _ inferInstance rfl rfl) ?_
   refine any_n (rfl : _ = [_, _, _, _]) ?_
   refine any_c (_, []) (fun τ => op_ldF _ inferInstance rfl (by exact blR_get0 _ _ (by omega)) rfl) ?_
   refine any_n (rfl : _ = [_, _, _, _, _]) ?_
   refine any_c (_, []) (fun τ => op_mv _ (rfl : _ = AV.sl _ _)) ?_
   refine any_n (rfl : _ = [_, _, _, _, _, _]) ?_
   refine any_c (_, []) (fun τ => op_mv _ (rfl : _ = AV.v (.int _ _))) ?_
   refine any_n (rfl : _ = [_, _, _, _, _, _, _]) ?_
   refine any_c (_, []) (fun τ => op_ixS _ _ inferInstance rfl rfl _ rfl (by omega) (by (simp only [isl_len, bsl_len, psl_len, mrows_len, nsl_len, ws_len, List.length_map, ul_len, psl_len, isl_len, nrows_len, mmap_len, smap_len, dcl_len, blR_len]; omega)) (by rfl)) ?_
   refine any_n (rfl : _ = [_, _, _, _, _, _, _, _]) ?_
   refine any_c (_, []) (fun τ => op_fldF _ inferInstance rfl rfl) ?_
   refine any_n (rfl : _ = [_, _, _, _, _, _, _, _, _]) ?_
   refine any_c (_, []) (fun τ => op_ldF _ inferInstance rfl (by exact blR_get0 _ _ (by omega)) rfl) ?_
   refine any_n (rfl : _ = [_, _, _, _, _, _, _, _, _, _]) ?_
   refine any_c (_, []) (fun τ => op_neq _ _ rfl rfl rfl) ?_
   refine any_n (rfl : _ = [_, _, _, _, _, _, _, _, _, _, _]) ?_
   refine any_c (_, []) (fun τ => op_mv _ (rfl : _ = AV.v (.bool _))) ?_
   refine any_caseC (fun hg28 => ?_) (fun hg28 => ?_)
   ·skip
    refine any_n (rfl : _ = [_, _, _, _, _, _, _, _, _, _, _, _]) ?_
    refine any_cn rfl (fun τ => rfl) (by decide) ?_
    refine any_n (rfl : _ = [_, _, _, _, _, _, _, _, _, _, _, _, _]) ?_
    refine any_cn rfl (fun τ => rfl) (by decide) ?_
    refine any_n (rfl : _ = [_, _, _, _, _, _, _, _, _, _, _, _, _, _]) ?_
    refine any_cn rfl (fun τ => rfl) (by decide) ?_
    refine any_n (rfl : _ = [_, _, _, _, _, _, _, _, _, _, _, _, _, _, _]) ?_
    refine any_cn rfl (fun τ => rfl) (by decide) ?_
    refine any_n (rfl : _ = [_, _, _, _, _, _, _, _, _, _, _, _, _, _, _, _]) ?_
    refine any_cn rfl (fun τ => rfl) (by decide) ?_
    refine any_n (rfl : _ = [_, _, _, _, _, _, _, _, _, _, _, _, _, _, _, _, _]) ?_
    refine any_cn rfl (fun τ => rfl) (by decide) ?_
    refine any_n (rfl : _ = [_, _, _, _, _, _, _, _, _, _, _, _, _, _, _, _, _, _]) ?_
    refine any_cn rfl (fun τ => rfl) (by decide) ?_
    refine any_n (rfl : _ = [_, _, _, _, _, _, _, _, _, _, _, _, _, _, _, _, _, _, _]) ?_
    refine any_cn rfl (fun τ => rfl) (by decide) ?_
    refine any_n (rfl : _ = [_, _, _, _, _, _, _, _, _, _, _, _, _, _, _, _, _, _, _, _]) ?_
    refine any_cn rfl (fun τ => rfl) (by decide) ?_
    refine any_n (rfl : _ = [_, _, _, _, _, _, _, _, _, _, _, _, _, _, _, _, _, _, _, _, _]) ?_
    refine any_cn rfl (fun τ => rfl) (by decide) ?_
    refine any_n (rfl : _ = [_, _, _, _, _, _, _, _, _, _, _, _, _, _, _, _, _, _, _, _, _, _]) ?_
    refine any_cn rfl (fun τ => rfl) (by decide) ?_
    refine any_n (rfl : _ = [_, _, _, _, _, _, _, _, _, _, _, _, _, _, _, _, _, _, _, _, _, _, _]) ?_
    refine any_cn rfl (fun τ => rfl) (by decide) ?_
    refine any_n (rfl : _ = [_, _, _, _, _, _, _, _, _, _, _, _, _, _, _, _, _, _, _, _, _, _, _, _]) ?_
    refine any_c (_, []) (fun τ => op_pick _ _ _ rfl (rfl : _ = AV.v (.bool _))) ?_
    refine any_n (rfl : _ = [_, _, _, _, _, _, _, _, _, _, _, _, _, _, _, _, _, _, _, _, _, _, _, _, _]) ?_
    refine any_end ⟨rfl, ?_⟩
    refine DL_nil (hK10 _ ?_)
    clear hK10; try clear K10
    refine D_cT rfl rfl ?_
    refine D_seq fun K11 hK11 => ?_
    refine D_le (σ' := mkStI 42 [] [] [] []) (by
     refine Le.mkJ [] [] rfl ?_ ?_ trivial trivial ?_
     ·exact trivial
     ·exact trivial
     ·kernel_rfl) ?_
    refine D_region ?_
    refine DL_c (asB rfl) ?_
    refine DL_nil (hK11 _ ?_)
    clear hK11; try clear K11
    refine D_ret ?_
    refine ret1 (.inr rfl) rfl (.tmp (rfl : _ = AV.v (.bool _))) (Le.out [] [] (lvB ?_) rfl rfl rfl trivial trivial)
    exact decide_eq_false fun h => by subst h; exact hg28 rfl
   ·skip
    refine any_n (rfl : _ = [_, _, _, _, _, _, _, _, _, _, _, _]) ?_
    refine any_cy (_, []) rfl (fun τ => rfl) (fun τ => op_mv _ (rfl : _ = AV.sl _ _)) ?_
    refine any_n (rfl : _ = [_, _, _, _, _, _, _, _, _, _, _, _, _]) ?_
    refine any_cy (_, []) rfl (fun τ => rfl) (fun τ => op_mv _ (rfl : _ = AV.v (.int _ _))) ?_
    refine any_n (rfl : _ = [_, _, _, _, _, _, _, _, _, _, _, _, _, _]) ?_
    refine any_cy (_, []) rfl (fun τ => rfl) (fun τ => op_ixS _ _ inferInstance rfl rfl _ rfl (by omega) (by (simp only [isl_len, bsl_len, psl_len, mrows_len, nsl_len, ws_len, List.length_map, ul_len, psl_len, isl_len, nrows_len, mmap_len, smap_len, dcl_len, blR_len]; omega)) (by rfl)) ?_
    refine any_n (rfl : _ = [_, _, _, _, _, _, _, _, _, _, _, _, _, _, _]) ?_
    refine any_cy (_, []) rfl (fun τ => rfl) (fun τ => op_fldF _ inferInstance rfl rfl) ?_
    refine any_n (rfl : _ = [_, _, _, _, _, _, _, _, _, _, _, _, _, _, _, _]) ?_
    refine any_cy (_, []) rfl (fun τ => rfl) (fun τ => op_ldF _ inferInstance rfl (by exact blR_get1 _ _ (by omega)) rfl) ?_
    refine any_n (rfl : _ = [_, _, _, _, _, _, _, _, _, _, _, _, _, _, _, _, _]) ?_
    refine any_cy (_, []) rfl (fun τ => rfl) (fun τ => op_mv _ (rfl : _ = AV.sl _ _)) ?_
    refine any_n (rfl : _ = [_, _, _, _, _, _, _, _, _, _, _, _, _, _, _, _, _, _]) ?_
    refine any_cy (_, []) rfl (fun τ => rfl) (fun τ => op_mv _ (rfl : _ = AV.v (.int _ _))) ?_
    refine any_n (rfl : _ = [_, _, _, _, _, _, _, _, _, _, _, _, _, _, _, _, _, _, _]) ?_
    refine any_cy (_, []) rfl (fun τ => rfl) (fun τ => op_ixS _ _ inferInstance rfl rfl _ rfl (by omega) (by (simp only [isl_len, bsl_len, psl_len, mrows_len, nsl_len, ws_len, List.length_map, ul_len, psl_len, isl_len, nrows_len, mmap_len, smap_len, dcl_len, blR_len]; omega)) (by rfl)) ?_
    refine any_n (rfl : _ = [_, _, _, _, _, _, _, _, _, _, _, _, _, _, _, _, _, _, _, _]) ?_
    refine any_cy (_, []) rfl (fun τ => rfl) (fun τ => op_fldF _ inferInstance rfl rfl) ?_
    refine any_n (rfl : _ = [_, _, _, _, _, _, _, _, _, _, _, _, _, _, _, _, _, _, _, _, _]) ?_
    refine any_cy (_, []) rfl (fun τ => rfl) (fun τ => op_ldF _ inferInstance rfl (by exact blR_get1 _ _ (by omega)) rfl) ?_
    refine any_n (rfl : _ = [_, _, _, _, _, _, _, _, _, _, _, _, _, _, _, _, _, _, _, _, _, _]) ?_
    refine any_cy (_, []) rfl (fun τ => rfl) (fun τ => (op_callH inferInstance (by repeat' (first | exact argsLv_nil | refine argsLv_cons ?_ ?_ | exact Lv.sl)) (same_spec _ _ ((L.getD k (0, [])).2.map fun (x : Nat) => (x : Int)) ((M.getD k (0, [])).2.map fun (x : Nat) => (x : Int)) (by simp) (by simp) (by omega) (by omega)) rfl rfl)) ?_
    refine any_n (rfl : _ = [_, _, _, _, _, _, _, _, _, _, _, _, _, _, _, _, _, _, _, _, _, _, _]) ?_
    refine any_cy (_, []) rfl (fun τ => rfl) (fun τ => op_not _ rfl rfl) ?_
    refine any_n (rfl : _ = [_, _, _, _, _, _, _, _, _, _, _, _, _, _, _, _, _, _, _, _, _, _, _, _]) ?_
    refine any_c (_, []) (fun τ => op_pick _ _ _ rfl (rfl : _ = AV.v (.bool _))) ?_
    refine any_n (rfl : _ = [_, _, _, _, _, _, _, _, _, _, _, _, _, _, _, _, _, _, _, _, _, _, _, _, _]) ?_
    refine any_end ⟨rfl, ?_⟩
    refine DL_nil (hK10 _ ?_)
    clear hK10; try clear K10
    refine D_splitC rfl (fun hc41 => ?_) (fun hc41 => ?_)
    ·skip
     refine D_seq fun K12 hK12 => ?_
     refine D_le (σ' := mkStI 42 [] [] [] []) (by
      refine Le.mkJ [] [] rfl ?_ ?_ trivial trivial ?_
      ·exact trivial
      ·exact trivial
      ·kernel_rfl) ?_
     refine D_region ?_
     refine DL_c (asB rfl) ?_
     refine DL_nil (hK12 _ ?_)
     clear hK12; try clear K12
     refine D_ret ?_
     refine ret1 (.inr rfl) rfl (.tmp (rfl : _ = AV.v (.bool _))) (Le.out [] [] (lvB ?_) rfl rfl rfl trivial trivial)
     exact decide_eq_false fun h => by subst h; exact hc41 rfl
    ·skip
     have hek : L.getD k (0, []) = M.getD k (0, []) := Prod.ext (by omega) (cast_inj.1 hc41)
     refine D_skip (hK9 _ ?_)
     clear hK9; try clear K9
     refine D_le (σ' := mkStI 42 [(0, _), (1, _), (5, _)] [] [] []) (by
      refine Le.mkJ [] [] rfl ?_ ?_ trivial trivial ?_
      ·exact ⟨(iS rfl), (iS rfl), (iV rfl), trivial⟩
      ·exact trivial
      ·kernel_rfl) ?_
     refine D_region ?_
     refine DL_c (mvI rfl) ?_
     refine DL_c (op_add _ _ rfl rfl (i64w (by omega))) ?_
     refine DL_c (asI rfl) ?_
     refine DL_nil ?_
     refine ⟨k + 1, ?_, ?_, ?_⟩
     ·exact ⟨by omega, hl, by rw [take1 (0, []) hkx, take1 (0, []) hky, ht, hek]⟩
     ·skip
      refine Le.mkJ [] [] rfl ?_ ?_ trivial trivial ?_
      ·exact ⟨(iS rfl), (iS rfl), (lvI (by rfl)), trivial⟩
      ·exact trivial
      ·kernel_rfl
     ·omega
  ·skip
   refine D_exit ?_
   refine id (hK5 _ ?_)
   clear hK5; try clear K5
   refine D_seq fun K13 hK13 => ?_
   refine D_region ?_
   refine DL_c (asB rfl) ?_
   refine DL_nil (hK13 _ ?_)
   clear hK13; try clear K13
   refine D_ret ?_
   refine ret1 (.inr rfl) rfl (.tmp (rfl : _ = AV.v (.bool _))) (Le.out [] [] (lvB ?_) rfl rfl rfl trivial trivial)
   rw [List.take_of_length_le (by omega), List.take_of_length_le (by omega)] at ht; exact decide_eq_true ht
/-! ### The documented example -/
theorem fnd4 : fnd (fun a v => decide (a ≤ v) && decide (v < 4)) 4 (fun v => wat 4 (parW (chM 4)) (v : Int)) [0, 0, 1, 1] 3 [0, 1, 2, 3] = (([3, 1, 2], [(2, [])]), true) := by decide
end Go.Proofs.Ytkbkmngbenohkaa

namespace Go.Proofs.Ytkbkmngbenohkaa
open Go.RowKit

theorem findG_spec {n : Nat} {Ps : List (List Int)} (hPs : Ps.length = n) (h64 : n ≤ 64) (hV : Valid Ps) (hlt : ∀ {a b : Nat}, Clo (edg Ps n 0) a b → a < b) (st : List Int) (h1 : st.length ≤ 4611686018427387904) (h : Nat) (hh : h < n) (hs : nst st h = 1) :
  Spec Try.prog 72 (inStI [.fp 0 (gra n (parW Ps) (ancW n (edg Ps n 0))), .v (.int .i64 (h : Int)), .fn (.func 73) [.ptr (3, 9) 0] []] [((3, 9), .box 93 [.sl st.length (isl st), .v (.slice none 0 0)])])
   (fOut st (fnd (anR n (ancW n (edg Ps n 0))) n (fun v => wat n (parW Ps) (v : Int)) st h (upE Ps h))) := by
 have hG := gr_of hPs h64 hV hlt
 subst hPs
 have hu : wat Ps.length (ancW Ps.length (edg Ps Ps.length 0)) (h : Int) = upE Ps h := rfl
 have := find_spec Ps.length (parW Ps) (ancW Ps.length (edg Ps Ps.length 0)) (parW_len Ps) (ancW_len _ _) h64 (parW_lt hV h64) (ancW_lt h64 _) (fun v p hp => (hG.lt (hG.par hp)).1) st h1 h hh hs
  (by rw [hu]; exact (upE_mem h64 hh).2 ⟨hh, .inl rfl⟩) (fun v hv => by rw [hu] at hv; exact ((upE_mem h64 hh).1 hv).1)
 rw [hu] at this
 exact this
theorem findGv_spec {n : Nat} {Ps : List (List Int)} (hPs : Ps.length = n) (h64 : n ≤ 64) (hV : Valid Ps) (hlt : ∀ {a b : Nat}, Clo (edg Ps n 0) a b → a < b) (st : List Int) (h1 : st.length ≤ 4611686018427387904) (h : Nat) (hh : h < n) (hs : nst st h ≠ 1) :
  Spec Try.prog 72 (inStI [.fp 0 (gra n (parW Ps) (ancW n (edg Ps n 0))), .v (.int .i64 (h : Int)), .fn (.func 73) [.ptr (3, 9) 0] []] [((3, 9), .box 93 [.sl st.length (isl st), .v (.slice none 0 0)])])
   (outStI (.tup [.v (.slice none 0 0), .v (.slice none 0 0), .v (.int .i64 41)]) [((3, 9), .box 93 [.sl st.length (isl st), .ref (4, 8) 0 [h].length]), ((4, 8), .row 3 1 (nsl [h]))] [(3, 9)] [(3, 9)]) := by
 have hG := gr_of hPs h64 hV hlt
 subst hPs
 exact find_ver Ps.length (parW Ps) (ancW Ps.length (edg Ps Ps.length 0)) (parW_len Ps) (ancW_len _ _) h64 (parW_lt hV h64) (ancW_lt h64 _) (fun v p hp => (hG.lt (hG.par hp)).1) st h1 h hh hs
theorem bl_one (x : Nat × List Nat) (h : x.2.length ≤ 1000) (i : Nat) : ([x].getD i (0, [])).2.length ≤ 1000 := by
 cases i with
 | zero => exact h
 | succ i => simp
theorem lives33_spec : Spec Try.prog 76 (inSt [] []) (outSt (.v (.bool true)) []) := by
 have hC := chain_spec 4 (by decide)
 have hN := newC_spec 4 (by decide)
 have hF := findG_spec (chM_len 4) (by decide) (chM_valid 4) chM_lt [0, 0, 1, 1] (by decide) 3 (by decide) (by decide)
 have hRf : anR 4 (ancW 4 (edg (chM 4) 4 0)) = fun a v => decide (a ≤ v) && decide (v < 4) := funext fun a => funext fun v => chM_R (by decide) a v
 rw [hRf, chM_up (by decide) (by decide), show List.range (3 + 1) = [0, 1, 2, 3] from rfl, fnd4] at hF
 have hF : Spec Try.prog 72 (inStI [.fp 0 (gra 4 (parW (chM 4)) (ancW 4 (edg (chM 4) 4 0))), .v (.int .i64 3), .fn (.func 73) [.ptr (3, 9) 0] []] [((3, 9), .box 93 [.sl 4 (isl [0, 0, 1, 1]), .v (.slice none 0 0)])])
   (outStI (.tup [.ref (0, 8) 0 1, .ref (2, 8) 0 3, .v (.int .i64 0)]) [((3, 9), .box 93 [.sl 4 (isl [0, 0, 1, 1]), .ref (4, 8) 0 3]), ((4, 8), .row 3 1 (nsl [3, 1, 2])), ((0, 8), .row 75 2 (blR [(2, [])])), ((2, 8), .row 3 1 (nsl [3, 1, 2]))] [(3, 9)] [(3, 9)]) := hF
 have hS := same33_spec 1 1 [(2, [])] [(2, [])] rfl rfl (by decide) (by decide) (bl_one _ (by decide)) (bl_one _ (by decide))
 have hO := same_spec 3 3 [3, 1, 2] [3, 1, 2] rfl rfl (by decide) (by decide)
 generalize ancW 4 (edg (chM 4) 4 0) = A at *
 generalize parW (chM 4) = P at *
 refine Spec.ofN Try.func76 rfl Try.ntmps76 rfl ?_
 refine D_seq fun K1 hK1 => ?_
 refine D_region ?_
 refine DL_c (asB rfl) ?_
 refine DL_nil (hK1 _ ?_)
 clear hK1; try clear K1
 refine D_seq fun K2 hK2 => ?_
 refine D_region ?_
 refine DL_c (op_callH inferInstance (by repeat' (first | exact argsLv_nil | refine argsLv_cons ?_ ?_ | exact Lv.v)) (hC) rfl rfl) ?_
 refine DL_c (op_callH inferInstance (by repeat' (first | exact argsLv_nil | refine argsLv_cons ?_ ?_ | exact Lv.sl)) (hN) rfl rfl) ?_
 refine DL_c (op_mv _ (rfl : _ = AV.tup _)) ?_
 refine DL_c (op_ext _ rfl (rfl : _ = some (AV.fp _ _))) ?_
 refine DL_c (op_ext _ rfl (rfl : _ = some (AV.v (.int _ _)))) ?_
 refine DL_c (op_as _ (rfl : _ = AV.fp _ _)) ?_
 refine DL_c (asI rfl) ?_
 refine DL_nil (hK2 _ ?_)
 clear hK2; try clear K2
 refine D_seq fun K3 hK3 => ?_
 refine D_seq fun K4 hK4 => ?_
 refine D_region ?_
 refine DL_c (op_mv _ (rfl : _ = AV.fp _ _)) ?_
 refine DL_c (op_eqN _ _ (by kernel_rfl) (.inr ⟨_, _, rfl⟩) rfl) ?_
 refine DL_c (mvB rfl) ?_
 refine DL_cy rfl rfl (mvI rfl) ?_
 refine DL_cy rfl rfl (op_neq (r := false) _ _ rfl rfl rfl) ?_
 refine DL_c (op_pick (b := false) _ _ _ rfl rfl) ?_
 refine DL_nil (hK4 _ ?_)
 clear hK4; try clear K4
 refine D_cF rfl rfl ?_
 refine D_skip (hK3 _ ?_)
 clear hK3; try clear K3
 refine D_seq fun K5 hK5 => ?_
 refine D_region ?_
 refine DL_c (op_bsF _ _ inferInstance rfl (by rfl) (by simp <;> rfl) (by decide) rfl) ?_
 refine DL_c (op_build _ inferInstance rfl (by exact (rfl : _ = some [_, _]))) ?_
 refine DL_c (op_box (20, 0) _ rfl rfl) ?_
 refine DL_c (op_as _ (rfl : _ = AV.ptr _ _)) ?_
 refine DL_nil (hK5 _ ?_)
 clear hK5; try clear K5
 refine D_seq fun K6 hK6 => ?_
 refine D_le (σ' := mkStI 47 [(1, _), (3, _)] [((20, 0), _)] [] []) (by
  refine Le.mkJ [] [] rfl ?_ ?_ trivial trivial ?_
  ·exact ⟨(iF rfl), (iP rfl), trivial⟩
  ·exact ⟨(obE rfl rfl rfl), trivial⟩
  ·kernel_rfl) ?_
 refine D_region ?_
 refine DL_c (op_mv _ (rfl : _ = AV.fp _ _)) ?_
 refine DL_c (op_mv _ (rfl : _ = AV.ptr _ _)) ?_
 refine DL_c (op_mf _ _ (rfl : _ = [_]) (rfl : _ = [])) ?_
 refine DL_c (op_callP inferInstance [((3, 9), (20, 0)), ((4, 8), (60, 0)), ((0, 8), (61, 0)), ((2, 8), (62, 0))] ?_ (hF) ⟨⟨rfl, ⟨_, rfl, .box rfl (lv_cons .sl (lv_cons .v lv_nil))⟩, rfl⟩, trivial⟩ ⟨rfl, rfl, rfl, rfl, trivial⟩ (by kernel_rfl)) ?_
 ·repeat' (first | exact argsR_nil | refine argsR_cons ?_ ?_ | exact Lv.v | exact Lv.fp | exact lvPr rfl | refine Lv.fn rfl ?_ rfl ?_ | exact lv_nil | refine lv_cons ?_ ?_)
 refine DL_c (op_mv _ (rfl : _ = AV.tup _)) ?_
 refine DL_c (op_ext _ rfl (rfl : _ = some (AV.ref _ _ _))) ?_
 refine DL_c (op_ext _ rfl (rfl : _ = some (AV.ref _ _ _))) ?_
 refine DL_c (op_ext _ rfl (rfl : _ = some (AV.v (.int _ _)))) ?_
 refine DL_c (asR rfl) ?_
 refine DL_c (asR rfl) ?_
 refine DL_c (asI rfl) ?_
 refine DL_nil (hK6 _ ?_)
 clear hK6; try clear K6
 refine D_seq fun K7 hK7 => ?_
 refine D_region ?_
 refine DL_c (mvI rfl) ?_
 refine DL_c (op_eql (r := true) _ _ rfl rfl rfl) ?_
 refine DL_c (mvB rfl) ?_
 refine DL_cy rfl rfl (mvR rfl) ?_
 refine DL_cy rfl rfl (op_lenR _ inferInstance rfl rfl) ?_
 refine DL_cy rfl rfl (op_eql (r := true) _ _ rfl rfl rfl) ?_
 refine DL_c (op_pick _ _ _ rfl (rfl : _ = AV.v (.bool _))) ?_
 refine DL_c (mvB rfl) ?_
 refine DL_cy rfl rfl (mvR rfl) ?_
 refine DL_cy rfl rfl (op_build _ inferInstance rfl (by exact (rfl : _ = some [_, _]))) ?_
 refine DL_cy rfl rfl (op_bsB (39, 0) 1 _ inferInstance (r := [[.v (.int .i64 2), .v (.slice none 0 0)]]) rfl rfl (by simp) (by decide) (by decide) rfl rfl) ?_
 refine DL_le (Le.trans (Le.frzRt (ys := blR [(2, [])]) 39 rfl rfl rfl (by rfl)) (Le.nil0 (39, 0) 1 rfl rfl)) ?_
 refine DL_cy rfl rfl (op_callBH inferInstance (by repeat' (first | exact argsLv_nil | refine argsLv_cons ?_ ?_ | exact Lv.sl | (refine frz0 rfl rfl ?_ rfl; (simp; done)))) (hS) rfl) ?_
 refine DL_c (op_pick _ _ _ rfl (rfl : _ = AV.v (.bool _))) ?_
 refine DL_c (mvB rfl) ?_
 refine DL_cy rfl rfl (mvR rfl) ?_
 refine DL_cy rfl rfl (op_bsF _ _ inferInstance rfl (by rfl) (by simp <;> rfl) (by decide) rfl) ?_
 refine DL_cy rfl rfl (op_callBH inferInstance (by repeat' (first | exact argsLv_nil | refine argsLv_cons ?_ ?_ | exact Lv.sl | (refine frz0 rfl rfl ?_ rfl; (simp; done)))) (hO) rfl) ?_
 refine DL_c (op_pick _ _ _ rfl (rfl : _ = AV.v (.bool _))) ?_
 refine DL_c (asB rfl) ?_
 refine DL_nil (hK7 _ ?_)
 clear hK7; try clear K7
 refine D_ret ?_
 refine ret1 (.inr rfl) rfl (.tmp (rfl : _ = AV.v (.bool _))) (Le.out [] [] (lvB ?_) rfl rfl rfl trivial trivial)
 rfl
end Go.Proofs.Ytkbkmngbenohkaa

namespace Go.Proofs.Ytkbkmngbenohkaa
open Go.RowKit

theorem find_argN (n : Nat) (P A : List Nat) (hP : P.length = n) (st : List Int) (h : Int) (hh : h < 0 ∨ (n : Int) ≤ h) :
  Spec Try.prog 72 (inStI [.fp 0 (gra n P A), .v (.int .i64 h), .fn (.func 73) [.ptr (3, 9) 0] []] [((3, 9), .box 93 [.sl st.length (isl st), .v (.slice none 0 0)])])
   (outStI (.tup [.sl 0 [], .sl 0 [], .v (.int .i64 1)]) [((3, 9), .box 93 [.sl st.length (isl st), .ref (4, 8) 0 0]), ((4, 8), .row 3 1 [])] [(3, 9)] [(3, 9)]) := by
 have hl := vlen_spec n P A
 refine Spec.ofNI Try.func72 rfl Try.ntmps72 rfl ?_
 refine D_seq fun K1 hK1 => ?_
 refine D_region ?_
 refine DL_c (op_as _ (rfl : _ = AV.v (.slice _ _ _))) ?_
 refine DL_c (op_as _ (rfl : _ = AV.v (.slice _ _ _))) ?_
 refine DL_c (asI rfl) ?_
 refine DL_nil (hK1 _ ?_)
 clear hK1; try clear K1
 refine D_seq fun K2 hK2 => ?_
 refine D_seq fun K3 hK3 => ?_
 refine D_le (Le.nilB (3, 9) 1 (4, 9) 3 1 rfl rfl rfl) ?_
 refine D_region ?_
 refine DL_c (mvI rfl) ?_
 refine DL_c (op_lss _ _ rfl rfl rfl) ?_
 refine DL_c (mvB rfl) ?_
 refine DL_caseC (fun hg18 => ?_) (fun hg18 => ?_)
 ·skip
  refine DL_cn rfl rfl (by decide) ?_
  refine DL_cn rfl rfl (by decide) ?_
  refine DL_cn rfl rfl (by decide) ?_
  refine DL_cn rfl rfl (by decide) ?_
  refine DL_c (op_pick _ _ _ rfl (rfl : _ = AV.v (.bool _))) ?_
  refine DL_nil (hK3 _ ?_)
  clear hK3; try clear K3
  refine D_cT rfl rfl ?_
  refine D_seq fun K4 hK4 => ?_
  refine D_region ?_
  refine DL_c (op_as _ (rfl : _ = AV.v (.slice _ _ _))) ?_
  refine DL_c (op_as _ (rfl : _ = AV.v (.slice _ _ _))) ?_
  refine DL_c (asI rfl) ?_
  refine DL_nil (hK4 _ ?_)
  clear hK4; try clear K4
  refine D_ret ?_
  exact ret3 (.inr rfl) rfl (.tmp (rfl : _ = AV.v _)) (.tmp (rfl : _ = AV.v _)) (.tmp (rfl : _ = AV.v _)) (Le.outI [((4, 8), (4, 9))] [] (.tup rfl (lv_cons .nil (lv_cons .nil (lv_cons .v lv_nil)))) rfl rfl rfl trivial ⟨⟨rfl, ⟨_, rfl, .box rfl (lv_cons .sl (lv_cons (lvRr rfl rfl) lv_nil))⟩, rfl⟩, ⟨rfl, ⟨_, rfl, .rowE rfl⟩, rfl⟩, trivial⟩ ⟨rfl, trivial⟩ rfl)
 ·skip
  skip
  refine DL_cy rfl rfl (mvI rfl) ?_
  refine DL_cy rfl rfl (op_mv _ (rfl : _ = AV.fp _ _)) ?_
  refine DL_cy rfl rfl (op_callH inferInstance (by repeat' (first | exact argsLv_nil | refine argsLv_cons ?_ ?_ | exact Lv.fp)) (hl) rfl rfl) ?_
  refine DL_cy rfl rfl (op_geq _ _ rfl rfl rfl) ?_
  refine DL_c (op_pick _ _ _ rfl (rfl : _ = AV.v (.bool _))) ?_
  refine DL_nil (hK3 _ ?_)
  clear hK3; try clear K3
  refine D_splitC rfl (fun hc23 => ?_) (fun hc23 => ?_)
  ·skip
   refine D_seq fun K5 hK5 => ?_
   refine D_region ?_
   refine DL_c (op_as _ (rfl : _ = AV.v (.slice _ _ _))) ?_
   refine DL_c (op_as _ (rfl : _ = AV.v (.slice _ _ _))) ?_
   refine DL_c (asI rfl) ?_
   refine DL_nil (hK5 _ ?_)
   clear hK5; try clear K5
   refine D_ret ?_
   exact ret3 (.inr rfl) rfl (.tmp (rfl : _ = AV.v _)) (.tmp (rfl : _ = AV.v _)) (.tmp (rfl : _ = AV.v _)) (Le.outI [((4, 8), (4, 9))] [] (.tup rfl (lv_cons .nil (lv_cons .nil (lv_cons .v lv_nil)))) rfl rfl rfl trivial ⟨⟨rfl, ⟨_, rfl, .box rfl (lv_cons .sl (lv_cons (lvRr rfl rfl) lv_nil))⟩, rfl⟩, ⟨rfl, ⟨_, rfl, .rowE rfl⟩, rfl⟩, trivial⟩ ⟨rfl, trivial⟩ rfl)
  ·skip
   exact absurd  hc23 (by omega)
noncomputable def findR (n : Nat) (Ps : List (List Int)) (st : List Int) (head : Int) : List Nat × List (Nat × List Nat) × List Nat × Int :=
 if head < 0 ∨ (n : Int) ≤ head then ([], [], [], 1)
 else if nst st head.toNat ≠ 1 then ([head.toNat], [], [], 41)
 else if (fnd (anR n (ancW n (edg Ps n 0))) n (fun v => wat n (parW Ps) (v : Int)) st head.toNat (upE Ps head.toNat)).2 = true
  then ((fnd (anR n (ancW n (edg Ps n 0))) n (fun v => wat n (parW Ps) (v : Int)) st head.toNat (upE Ps head.toNat)).1.1, (fnd (anR n (ancW n (edg Ps n 0))) n (fun v => wat n (parW Ps) (v : Int)) st head.toNat (upE Ps head.toNat)).1.2, (fnd (anR n (ancW n (edg Ps n 0))) n (fun v => wat n (parW Ps) (v : Int)) st head.toNat (upE Ps head.toNat)).1.1, 0)
  else ((fnd (anR n (ancW n (edg Ps n 0))) n (fun v => wat n (parW Ps) (v : Int)) st head.toNat (upE Ps head.toNat)).1.1, [], [], 42)
abbrev findS (n : Nat) (Ps : List (List Int)) (st : List Int) (head : Int) (r : List Nat × List (Nat × List Nat) × List Nat × Int) : Prop :=
 Spec Try.prog 72 (inStI [.fp 0 (gra n (parW Ps) (ancW n (edg Ps n 0))), .v (.int .i64 head), .fn (.func 73) [.ptr (3, 9) 0] []] [((3, 9), .box 93 [.sl st.length (isl st), .v (.slice none 0 0)])])
  (outStI (.tup [.sl r.2.1.length (blR r.2.1), .sl r.2.2.1.length (nsl r.2.2.1), .v (.int .i64 r.2.2.2)]) [((3, 9), .box 93 [.sl st.length (isl st), .ref (4, 8) 0 r.1.length]), ((4, 8), .row 3 1 (nsl r.1))] [(3, 9)] [(3, 9)])
theorem findR_spec {n : Nat} {Ps : List (List Int)} (hPs : Ps.length = n) (h64 : n ≤ 64) (hV : Valid Ps) (hlt : ∀ {a b : Nat}, Clo (edg Ps n 0) a b → a < b) (st : List Int) (h1 : st.length ≤ 4611686018427387904) (head : Int) :
  findS n Ps st head (findR n Ps st head) := by
 unfold findS findR
 by_cases hr : head < 0 ∨ (n : Int) ≤ head
 ·rw [if_pos hr]
  exact find_argN n (parW Ps) (ancW n (edg Ps n 0)) (by rw [parW_len, hPs]) st head hr
 ·rw [if_neg hr]
  obtain ⟨h, rfl⟩ := Int.eq_ofNat_of_zero_le (show 0 ≤ head by omega)
  have hh : h < n := by omega
  rw [Int.toNat_natCast]
  by_cases hs : nst st h = 1
  ·rw [if_neg (fun hn => hn hs)]
   have hF := findG_spec hPs h64 hV hlt st h1 h hh hs
   generalize fnd (anR n (ancW n (edg Ps n 0))) n (fun v => wat n (parW Ps) (v : Int)) st h (upE Ps h) = r at hF ⊢
   obtain ⟨⟨ord, bl⟩, b⟩ := r
   cases b with
   | true =>
    rw [if_pos rfl]
    refine hF.mono (Le.outII [] [(0, 8), (2, 8)] (.tup rfl (lv_cons (frz0 rfl rfl (by simp) rfl) (lv_cons (frz0 rfl rfl (by simp) rfl) (lv_cons .v lv_nil)))) rfl rfl rfl ⟨rfl, rfl, trivial⟩ ⟨⟨rfl, ⟨_, rfl, .box rfl (lv_cons .sl (lv_cons (lvRr rfl rfl) lv_nil))⟩, rfl⟩, ⟨rfl, ⟨_, rfl, .rowE rfl⟩, rfl⟩, trivial⟩ ⟨rfl, trivial⟩ rfl)
   | false =>
    rw [if_neg (by simp)]
    refine hF.mono (Le.outII [] [] (.tup rfl (lv_cons .nil (lv_cons .nil (lv_cons .v lv_nil)))) rfl rfl rfl trivial ⟨⟨rfl, ⟨_, rfl, .box rfl (lv_cons .sl (lv_cons (lvRr rfl rfl) lv_nil))⟩, rfl⟩, ⟨rfl, ⟨_, rfl, .rowE rfl⟩, rfl⟩, trivial⟩ ⟨rfl, trivial⟩ rfl)
  ·rw [if_pos hs]
   have hF := findGv_spec hPs h64 hV hlt st h1 h hh hs
   refine hF.mono (Le.outII [] [] (.tup rfl (lv_cons .nil (lv_cons .nil (lv_cons .v lv_nil)))) rfl rfl rfl trivial ⟨⟨rfl, ⟨_, rfl, .box rfl (lv_cons .sl (lv_cons (lvRr rfl rfl) lv_nil))⟩, rfl⟩, ⟨rfl, ⟨_, rfl, .rowE rfl⟩, rfl⟩, trivial⟩ ⟨rfl, trivial⟩ rfl)
end Go.Proofs.Ytkbkmngbenohkaa

namespace Go.Proofs.Ytkbkmngbenohkaa
open Go.RowKit

theorem findR_eco {n : Nat} {Ps : List (List Int)} (hPs : Ps.length = n) (h64 : n ≤ 64) (hV : Valid Ps) (hlt : ∀ {a b : Nat}, Clo (edg Ps n 0) a b → a < b) (st : List Int) {h : Nat} (hh : h < n) :
  ok1 n (findR n Ps st (h : Int)).1 ∧ (∃ x, (findR n Ps st (h : Int)).1 = h :: x) ∧ (∀ u ∈ (findR n Ps st (h : Int)).1, u ∈ upE Ps h) ∧
   ((findR n Ps st (h : Int)).2.2.2 = 0 → (findR n Ps st (h : Int)).2.2.1 = (findR n Ps st (h : Int)).1) ∧ ((findR n Ps st (h : Int)).2.2.2 ≠ 0 → (findR n Ps st (h : Int)).2.2.1 = []) := by
 have hG := gr_of hPs h64 hV hlt
 have hself : h ∈ upE Ps h := by
  have := (anR_iff hPs).1 (hG.refl hh)
  exact this
 have hi := fnd_inv (R := anR n (ancW n (edg Ps n 0))) (n := n) (par := fun v => wat n (parW Ps) (v : Int)) (st := st) (fun v _ p hp => (hG.lt (hG.par hp)).1) (T := fun u => u ∈ upE Ps h)
  (fun v hv p hp => (anR_iff hPs).1 (hG.trans (hG.par hp) ((anR_iff hPs).2 hv))) (h := h) (sc := upE Ps h) (fun v hv => ⟨(hG.lt ((anR_iff hPs).2 hv)).1, hv⟩) hh hself
 unfold findR
 rw [if_neg (by omega), Int.toNat_natCast]
 by_cases hs : nst st h = 1
 ·rw [if_neg (fun hn => hn hs)]
  split
  ·exact ⟨hi.1, hi.2.1, hi.2.2, fun _ => rfl, fun hn => absurd rfl hn⟩
  ·exact ⟨hi.1, hi.2.1, hi.2.2, fun he => by simp at he, fun _ => rfl⟩
 ·rw [if_pos hs]
  exact ⟨⟨by simp, fun v hv => by simp at hv; omega⟩, ⟨[], rfl⟩, fun u hu => by simp at hu; exact hu ▸ hself, fun he => by simp at he, fun _ => rfl⟩
end Go.Proofs.Ytkbkmngbenohkaa

namespace Go.Proofs.Ytkbkmngbenohkaa
open Go.RowKit

section
variable {st su : List Int} (hns : ∀ v, nst st v = nst su v) {R : Rl} {n : Nat} {par : Nat → List Nat} {h : Nat} {sc : List Nat}
include hns
end
def odds (st : List Int) (odd : Int) (k : Nat) : List Int := (List.range k).map fun i => if st.getD i 0 = 2 ∧ odd ≠ 0 ∧ odd ≠ 1 then odd else st.getD i 0
@[simp] theorem odds_len (st : List Int) (odd : Int) (k : Nat) : (odds st odd k).length = k := by simp [odds]
theorem status_012 (Ps : List (List Int)) (s : List Int) (b : Bool) : ∀ v, v < Ps.length → (status32 Ps s b).getD v 0 = 0 ∨ (status32 Ps s b).getD v 0 = 1 ∨ (status32 Ps s b).getD v 0 = 2 := by
 have h0 : ∀ v, (st0 Ps.length s).getD v 0 = 0 ∨ (st0 Ps.length s).getD v 0 = 1 ∨ (st0 Ps.length s).getD v 0 = 2 := by
  intro v
  by_cases hv : v < Ps.length
  ·have := stv_bd s v
   have e : (st0 Ps.length s).getD v 0 = stv s v := by simp [st0, List.getD_eq_getElem?_getD, hv]
   rw [e]; omega
  ·rw [List.getD_eq_getElem?_getD, List.getElem?_eq_none (by rw [st0_len]; omega)]; exact .inl rfl
 have hset : ∀ (o : List Int) (v : Nat), (∀ i, o.getD i 0 = 0 ∨ o.getD i 0 = 1 ∨ o.getD i 0 = 2) → ∀ i, (o.set v 1).getD i 0 = 0 ∨ (o.set v 1).getD i 0 = 1 ∨ (o.set v 1).getD i 0 = 2 := by
  intro o v ho i
  rw [getD_set]
  split
  ·exact .inr (.inl rfl)
  ·exact ho i
 have hinh : ∀ (a : List Nat) (o : List Int) (v : Nat), (∀ i, o.getD i 0 = 0 ∨ o.getD i 0 = 1 ∨ o.getD i 0 = 2) → ∀ i, (inh1 o v a).getD i 0 = 0 ∨ (inh1 o v a).getD i 0 = 1 ∨ (inh1 o v a).getD i 0 = 2 := by
  intro a
  induction a with
  | nil => exact fun o v h => h
  | cons u a ih =>
   intro o v ho
   have e : inh1 o v (u :: a) = inh1 (if o.getD u 0 = 1 ∧ o.getD v 0 = 0 then o.set v 1 else o) v a := rfl
   rw [e]
   apply ih
   split
   ·exact hset o v ho
   ·exact ho
 have hK : ∀ k i, (stK Ps s b k).getD i 0 = 0 ∨ (stK Ps s b k).getD i 0 = 1 ∨ (stK Ps s b k).getD i 0 = 2 := by
  intro k
  induction k with
  | zero => rw [stK_zero]; exact h0
  | succ k ih =>
   cases b with
   | false => rw [stK_false Ps s (k + 1) 0, stK_zero]; exact h0
   | true => rw [stK_succ]; exact hinh _ _ _ ih
 exact fun v _ => hK Ps.length v
end Go.Proofs.Ytkbkmngbenohkaa
