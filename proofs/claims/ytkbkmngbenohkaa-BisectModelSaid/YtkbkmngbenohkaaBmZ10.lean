/- Part 10 of the texts that the walk leans on: the machine, the walks, the plain laws. -/
import Derived.Maps.RangeRun
import Derived.Shelf.Sort.Plain
import Derived.Sort.OwnSortedInts
import Derived.Test.YtkbkmngbenohkaaBmZ9
set_option linter.unusedSimpArgs false
set_option linter.unusedVariables false
namespace Go.Proofs.Ytkbkmngbenohkaa
open Go.RowKit

def stv (l : List Int) (v : Nat) : Int := [0, 0, 2, 1, 0, 2].getD (pk l v 6).toNat 0
def st0 (n : Nat) (l : List Int) : List Int := (List.range n).map (stv l)
@[simp] theorem st0_len (n : Nat) (l : List Int) : (st0 n l).length = n := by simp [st0]
theorem st0_succ (n : Nat) (l : List Int) : st0 (n + 1) l = st0 n l ++ [stv l n] := by simp [st0, List.range_succ]
theorem pk_bd (l : List Int) (i : Nat) (n : Int) (hn : 1 ≤ n) : 0 ≤ pk l i n ∧ pk l i n < n := by
 unfold pk; split
 ·exact ⟨around_lo _ _ hn, around_hi _ _ hn⟩
 ·omega
def inh1 (o : List Int) (v : Nat) (a : List Nat) : List Int := a.foldl (fun o u => if o.getD u 0 = 1 ∧ o.getD v 0 = 0 then o.set v 1 else o) o
theorem inh1_snoc (o : List Int) (v : Nat) (a : List Nat) (u : Nat) : inh1 o v (a ++ [u]) = if (inh1 o v a).getD u 0 = 1 ∧ (inh1 o v a).getD v 0 = 0 then (inh1 o v a).set v 1 else inh1 o v a := by simp [inh1, List.foldl_append]
@[simp] theorem inh1_len (v : Nat) : ∀ (a : List Nat) (o : List Int), (inh1 o v a).length = o.length
 | [], _ => rfl
 | u :: a, o => by
  have e : inh1 o v (u :: a) = inh1 (if o.getD u 0 = 1 ∧ o.getD v 0 = 0 then o.set v 1 else o) v a := rfl
  rw [e, inh1_len v a]
  split <;> simp
noncomputable def upE (Ps : List (List Int)) (v : Nat) : List Nat := wat Ps.length (ancW Ps.length (edg Ps Ps.length 0)) (v : Int)
noncomputable def stK (Ps : List (List Int)) (l : List Int) (b : Bool) (k : Nat) : List Int := if b = true then (List.range k).foldl (fun o v => inh1 o v (upE Ps v)) (st0 Ps.length l) else st0 Ps.length l
theorem stK_zero (Ps : List (List Int)) (l : List Int) (b : Bool) : stK Ps l b 0 = st0 Ps.length l := by unfold stK; split <;> rfl
theorem stK_succ (Ps : List (List Int)) (l : List Int) (k : Nat) : stK Ps l true (k + 1) = inh1 (stK Ps l true k) k (upE Ps k) := by simp [stK, List.range_succ, List.foldl_append]
theorem stK_false (Ps : List (List Int)) (l : List Int) (k j : Nat) : stK Ps l false k = stK Ps l false j := rfl
@[simp] theorem stK_len (Ps : List (List Int)) (l : List Int) (b : Bool) : ∀ k, (stK Ps l b k).length = Ps.length
 | 0 => by rw [stK_zero]; simp
 | k + 1 => by
  cases b with
  | false => rw [stK_false Ps l (k + 1) k]; exact stK_len Ps l false k
  | true => rw [stK_succ, inh1_len]; exact stK_len Ps l true k
noncomputable def status32 (Ps : List (List Int)) (l : List Int) (b : Bool) : List Int := stK Ps l b Ps.length
@[simp] theorem status32_len (Ps : List (List Int)) (l : List Int) (b : Bool) : (status32 Ps l b).length = Ps.length := stK_len _ _ _ _
theorem upE_mem {Ps : List (List Int)} (h64 : Ps.length ≤ 64) {v u : Nat} (hv : v < Ps.length) : u ∈ upE Ps v ↔ u < Ps.length ∧ (u = v ∨ Clo (edg Ps Ps.length 0) u v) := by
 unfold upE wat
 rw [if_pos (by omega), Int.toNat_natCast, ancW_get hv, els_mem, aw1, cw_bit]
 simp only [Bool.and_eq_true, Bool.or_eq_true, decide_eq_true_eq, cl_iff]
 constructor
 ·exact fun h => h.2
 ·exact fun h => ⟨by omega, h⟩
def unt (st : List Int) (p : Int) : Bool := decide (st.getD p.toNat 0 = 2)
def Pst (Ps : List (List Int)) (st : List Int) : List (List Int) := Ps.map fun r => r.filter (unt st)
@[simp] theorem Pst_len (Ps : List (List Int)) (st : List Int) : (Pst Ps st).length = Ps.length := by simp [Pst]
theorem els_cw {n : Nat} (h64 : n ≤ 64) (f : Nat → Bool) : els (cw n f) = (List.range n).filter f := by
 unfold els
 obtain ⟨d, hd⟩ : ∃ d, 64 = n + d := ⟨64 - n, by omega⟩
 rw [hd, List.range_add, List.filter_append]
 have e1 : List.filter (fun b => (cw n f).testBit b) (List.range n) = (List.range n).filter f := by
  refine List.filter_congr fun b hb => ?_
  rw [cw_bit, decide_eq_true (List.mem_range.1 hb), Bool.true_and]
 have e2 : List.filter (fun b => (cw n f).testBit b) ((List.range d).map (n + ·)) = [] := by
  rw [List.filter_eq_nil_iff]
  intro b hb
  obtain ⟨k, _, rfl⟩ := List.mem_map.1 hb
  rw [cw_bit, decide_eq_false (by omega), Bool.false_and]
  simp
 rw [e1, e2, List.append_nil]
end Go.Proofs.Ytkbkmngbenohkaa

namespace Go.Proofs.Ytkbkmngbenohkaa
open Go.RowKit

structure GG (n : Nat) (Ps : List (List Int)) : Prop where
 len : Ps.length = n
 n64 : n ≤ 64
 V : Valid Ps
 m : ∀ v, (Ps.getD v []).length ≤ 64
 ac : ¬ ∃ a, a < n ∧ Clo (edg Ps n 0) a a
theorem Near.gg {Ps : List (List Int)} (h : Near Ps) : GG Ps.length Ps := ⟨rfl, by have := h.n; omega, h.valid, fun v => by have := h.rows v; omega, h.acyc⟩
theorem upE_lt {n : Nat} {Ps : List (List Int)} (h : GG n Ps) {v u : Nat} (hu : u ∈ upE Ps v) : u < n := h.len ▸ wat_lt hu
theorem upE_len (Ps : List (List Int)) (v : Nat) : (upE Ps v).length ≤ 64 := wat_len _ _
theorem rancN_spec (n : Nat) (Ps : List (List Int)) (h : GG n Ps) (v : Nat) :
  Spec Try.prog 66 (inSt [.sl n (nrows Ps), .v (.int .i64 (v : Int))] []) (outSt (.sl (upE Ps v).length (nsl (upE Ps v))) []) := by
 have h1 := rancestors_spec n Ps h.len (by have := h.n64; omega) h.V (fun v => by have := h.m v; omega) v
 have h2 : rat Ps (v : Int) = (upE Ps v).map fun (x : Nat) => (x : Int) := rat_els h.V (by rw [h.len]; exact h.n64) v
 rw [h2, List.length_map] at h1
 exact h1
theorem stv_bd (l : List Int) (v : Nat) : 0 ≤ stv l v ∧ stv l v ≤ 2 := by
 unfold stv
 have h1 := pk_bd l v 6 (by decide)
 obtain ⟨k, hk⟩ := Int.eq_ofNat_of_zero_le h1.1
 rw [hk] at h1 ⊢
 rw [Int.toNat_natCast]
 have h2 : k = 0 ∨ k = 1 ∨ k = 2 ∨ k = 3 ∨ k = 4 ∨ k = 5 := by omega
 rcases h2 with rfl | rfl | rfl | rfl | rfl | rfl <;> decide
theorem status_spec (n : Nat) (Ps : List (List Int)) (hG : GG n Ps) (m : Nat) (l : List Int) (hm : l.length = m) (h1 : m ≤ 4611686018427387904) (hr : Rng l) (b : Bool) :
  Spec Try.prog 57 (inSt [.sl n (nrows Ps), .sl m (isl l), .v (.bool b)] []) (outSt (.sl n (isl (status32 Ps l b))) []) := by
 have hn := hG.n64
 have hPl := hG.len
 refine Spec.ofN Try.func57 rfl Try.ntmps57 rfl ?_
 refine D_seq fun K1 hK1 => ?_
 refine D_region ?_
 refine DL_c (op_as _ (rfl : _ = AV.v (.slice _ _ _))) ?_
 refine DL_nil (hK1 _ ?_)
 clear hK1; try clear K1
 refine D_seq fun K2 hK2 => ?_
 refine D_region ?_
 refine DL_c (op_asN (7, 0) _ 3 1 rfl rfl) ?_
 refine DL_nil (hK2 _ ?_)
 clear hK2; try clear K2
 refine D_seq fun K3 hK3 => ?_
 refine D_seq fun K4 hK4 => ?_
 refine D_region ?_
 refine DL_c (asI rfl) ?_
 refine DL_nil (hK4 _ ?_)
 clear hK4; try clear K4
 refine D_block ?_
 refine D_loopL (α := Nat) (fun v => v ≤ n) 66 [(0, _), (1, _), (2, _)] [] (fun v => [(8, .v (.int .i64 (v : Int))), (7, .ref (7, 0) 0 v)]) (fun v => [((7, 0), .row 3 1 (isl (st0 v l)))]) [] [] (fun v => n - v) 0 ?_ (by
  refine Le.mkJ [] [] rfl ?_ ?_ trivial trivial ?_
  ·exact ⟨(iS rfl), (iS rfl), (iV rfl), (lvI (by rfl)), (lvRr rfl (by rfl)), trivial⟩
  ·exact ⟨(obR rfl rfl rfl (by rfl)), trivial⟩
  ·kernel_rfl) ?_
 ·omega
 intro v hv
 refine D_seq fun K5 hK5 => ?_
 refine D_seq fun K6 hK6 => ?_
 refine D_region ?_
 refine DL_c (mvI rfl) ?_
 refine DL_c (mvS rfl) ?_
 refine DL_c (op_lenS _ inferInstance rfl) ?_
 refine DL_c (op_lss _ _ rfl rfl rfl) ?_
 refine DL_nil (hK6 _ ?_)
 clear hK6; try clear K6
 refine D_splitC rfl (fun hc16 => ?_) (fun hc16 => ?_)
 ·skip
  have hp := pk_bd l v 6 (by decide)
  obtain ⟨k, hk⟩ := Int.eq_ofNat_of_zero_le hp.1
  have hsv : stv l v = [0, 0, 2, 1, 0, 2].getD k 0 := by rw [stv, hk, Int.toNat_natCast]
  have hk6 : k < 6 := by omega
  refine D_skip (hK5 _ ?_)
  clear hK5; try clear K5
  refine D_seq fun K7 hK7 => ?_
  refine D_block ?_
  refine D_seq fun K8 hK8 => ?_
  refine D_region ?_
  refine DL_c (op_bsF _ _ inferInstance rfl (by rfl) (by simp <;> rfl) (by decide) rfl) ?_
  refine DL_c (mvS rfl) ?_
  refine DL_c (mvI rfl) ?_
  refine DL_c (op_callH inferInstance (by repeat' (first | exact argsLv_nil | refine argsLv_cons ?_ ?_ | exact Lv.v | exact Lv.sl)) (pick_spec m l hm h1 hr v 6 (by omega) (by omega)) rfl rfl) ?_
  refine DL_c (op_ixS _ _ inferInstance rfl rfl k hk (by omega) (by simp only [List.length_cons, List.length_nil]; omega) (Nat.mul_one _)) ?_
  refine DL_c (op_ldF _ inferInstance rfl (by exact isl_get [0, 0, 2, 1, 0, 2] k hk6) rfl) ?_
  refine DL_c (asI rfl) ?_
  refine DL_nil (hK8 _ ?_)
  clear hK8; try clear K8
  refine D_region ?_
  refine DL_c (mvR rfl) ?_
  refine DL_c (mvI rfl) ?_
  refine DL_c (op_bsF _ _ inferInstance rfl (by rfl) (by simp <;> rfl) (by decide) rfl) ?_
  refine DL_c (op_ap (28, 0) _ _ inferInstance rfl rfl (by (simp only [isl_len, bsl_len, psl_len, mrows_len, nsl_len, ws_len, List.length_map, ul_len, psl_len, isl_len, nrows_len, prL_len, blR_len, stK_len, inh1_len, st0_len]; omega)) (by (refine .sl ?_; (simp [isl]; done))) (by omega) rfl (rfl) (rfl)) ?_
  refine DL_c (asR rfl) ?_
  refine DL_nil (hK7 _ ?_)
  clear hK7; try clear K7
  refine D_le (σ' := mkStI 66 [(0, _), (1, _), (2, _), (7, _), (8, _)] [((28, 0), _)] [] []) (by
   refine Le.mkJ [] [] rfl ?_ ?_ trivial trivial ?_
   ·exact ⟨(iS rfl), (iS rfl), (iV rfl), (iR rfl), (iV rfl), trivial⟩
   ·exact ⟨(obE rfl rfl rfl), trivial⟩
   ·kernel_rfl) ?_
  refine D_region ?_
  refine DL_c (mvI rfl) ?_
  refine DL_c (op_add _ _ rfl rfl (i64w (by omega))) ?_
  refine DL_c (asI rfl) ?_
  refine DL_nil ?_
  refine ⟨v + 1, ?_, ?_, ?_⟩
  ·omega
  ·skip
   refine Le.mkJ [((7, 0), (28, 0))] [] rfl ?_ ?_ trivial trivial ?_
   ·exact ⟨(by repeat' (exact Lv.sl)), (by repeat' (exact Lv.sl)), (by repeat' (exact Lv.v)), (lvI (by rfl)), (lvRr rfl (by rfl)), trivial⟩
   ·exact ⟨(obR rfl rfl rfl (by rw [st0_succ, hsv]; simp [isl])), trivial⟩
   ·kernel_rfl
  ·omega
 ·skip
  obtain rfl : v = n := by omega
  refine D_exit ?_
  refine id (hK3 _ ?_)
  clear hK3; try clear K3
  refine D_seq fun K9 hK9 => ?_
  refine D_seq fun K10 hK10 => ?_
  refine D_region ?_
  refine DL_c (asI rfl) ?_
  refine DL_nil (hK10 _ ?_)
  clear hK10; try clear K10
  refine D_block ?_
  refine D_loopL (α := Nat) (fun k => k ≤ v) 66 [(0, _), (2, _), (7, _)] [] (fun k => [(10, .v (.int .i64 (k : Int)))]) (fun k => [((7, 0), .row 3 1 (isl (stK Ps l b k)))]) [] [] (fun k => v - k) 0 ?_ (by
   refine Le.mkJ [] [] rfl ?_ ?_ trivial trivial ?_
   ·exact ⟨(iS rfl), (iV rfl), (iR rfl), (lvI (by rfl)), trivial⟩
   ·exact ⟨(obR rfl rfl rfl (by rw [stK_zero, hPl])), trivial⟩
   ·kernel_rfl) ?_
  ·omega
  intro k hk
  refine D_seq fun K11 hK11 => ?_
  refine D_seq fun K12 hK12 => ?_
  refine D_region ?_
  refine DL_c (mvI rfl) ?_
  refine DL_c (mvS rfl) ?_
  refine DL_c (op_lenS _ inferInstance rfl) ?_
  refine DL_c (op_lss _ _ rfl rfl rfl) ?_
  refine DL_c (mvB rfl) ?_
  refine DL_caseC (fun hg33 => ?_) (fun hg33 => ?_)
  ·skip
   refine DL_cy rfl rfl (mvB rfl) ?_
   refine DL_c (op_pick _ _ _ rfl (rfl : _ = AV.v (.bool _))) ?_
   refine DL_nil (hK12 _ ?_)
   clear hK12; try clear K12
   refine D_splitC rfl (fun hc35 => ?_) (fun hc35 => ?_)
   ·skip
    have hb : b = true := hc35
    subst hb
    have hsl := stK_len Ps l true k
    have hul := upE_len Ps k
    have hss := stK_succ Ps l k
    refine D_skip (hK11 _ ?_)
    clear hK11; try clear K11
    refine D_seq fun K13 hK13 => ?_
    refine D_block ?_
    refine D_seq fun K14 hK14 => ?_
    refine D_region ?_
    refine DL_c (mvS rfl) ?_
    refine DL_c (mvI rfl) ?_
    refine DL_c (op_callH inferInstance (by repeat' (first | exact argsLv_nil | refine argsLv_cons ?_ ?_ | exact Lv.v | exact Lv.sl)) (rancN_spec v Ps hG k) rfl rfl) ?_
    refine DL_c (asS rfl) ?_
    refine DL_nil (hK14 _ ?_)
    clear hK14; try clear K14
    refine D_seq fun K15 hK15 => ?_
    refine D_region ?_
    refine DL_c (asI rfl) ?_
    refine DL_nil (hK15 _ ?_)
    clear hK15; try clear K15
    refine D_block ?_
    refine D_loopL (α := Nat) (fun j => j ≤ (upE Ps k).length) 66 [(0, _), (2, _), (7, _), (10, _), (11, _)] [] (fun j => [(12, .v (.int .i64 (j : Int)))]) (fun j => [((7, 0), .row 3 1 (isl (inh1 (stK Ps l true k) k ((upE Ps k).take j))))]) [] [] (fun j => (upE Ps k).length - j) 0 ?_ (by
     refine Le.mkJ [] [] rfl ?_ ?_ trivial trivial ?_
     ·exact ⟨(iS rfl), (iV rfl), (iR rfl), (iV rfl), (iS rfl), (lvI (by rfl)), trivial⟩
     ·exact ⟨(obR rfl rfl rfl (by rfl)), trivial⟩
     ·kernel_rfl) ?_
    ·omega
    intro j hj
    have hil := inh1_len k ((upE Ps k).take j) (stK Ps l true k)
    refine D_seq fun K16 hK16 => ?_
    refine D_seq fun K17 hK17 => ?_
    refine D_region ?_
    refine DL_c (mvI rfl) ?_
    refine DL_c (mvS rfl) ?_
    refine DL_c (op_lenS _ inferInstance rfl) ?_
    refine DL_c (op_lss _ _ rfl rfl rfl) ?_
    refine DL_nil (hK17 _ ?_)
    clear hK17; try clear K17
    refine D_splitC rfl (fun hc44 => ?_) (fun hc44 => ?_)
    ·skip
     obtain ⟨u, hu⟩ : ∃ u, u = (upE Ps k).getD j 0 := ⟨_, rfl⟩
     have hum : u ∈ upE Ps k := hu ▸ getD_mem (by omega)
     have hun := upE_lt hG hum
     have htk : (upE Ps k).take (j + 1) = (upE Ps k).take j ++ [u] := by rw [take1 0 (by omega), hu]
     have hin := inh1_snoc (stK Ps l true k) k ((upE Ps k).take j) u
     rw [← htk] at hin
     generalize inh1 (stK Ps l true k) k ((upE Ps k).take j) = o at hil hin ⊢
     refine D_skip (hK16 _ ?_)
     clear hK16; try clear K16
     refine D_seq fun K18 hK18 => ?_
     refine D_block ?_
     refine D_seq fun K19 hK19 => ?_
     refine D_region ?_
     refine DL_c (mvR rfl) ?_
     refine DL_c (mvS rfl) ?_
     refine DL_c (mvI rfl) ?_
     refine DL_c (op_ixS _ _ inferInstance rfl rfl _ rfl (by omega) (by (simp only [isl_len, bsl_len, psl_len, mrows_len, nsl_len, ws_len, List.length_map, ul_len, psl_len, isl_len, nrows_len, prL_len, blR_len, stK_len, inh1_len, st0_len]; omega)) (by exact Nat.mul_one _)) ?_
     refine DL_c (op_ldF _ inferInstance rfl (by exact (nsl_get _ _ (by omega)).trans (by rw [← hu])) rfl) ?_
     refine DL_c (op_ixR _ _ inferInstance rfl rfl rfl u rfl (by omega) (by exact (Nat.zero_add _).trans (Nat.mul_one _))) ?_
     refine DL_c (op_ldR _ inferInstance rfl rfl (by exact isl_get _ _ (by omega)) rfl) ?_
     refine DL_c (op_eql _ _ rfl rfl rfl) ?_
     refine DL_c (mvB rfl) ?_
     refine DL_caseC (fun hg55 => ?_) (fun hg55 => ?_)
     ·skip
      refine DL_cy rfl rfl (mvR rfl) ?_
      refine DL_cy rfl rfl (mvI rfl) ?_
      refine DL_cy rfl rfl (op_ixR _ _ inferInstance rfl rfl rfl k rfl (by omega) (by exact (Nat.zero_add _).trans (Nat.mul_one _))) ?_
      refine DL_cy rfl rfl (op_ldR _ inferInstance rfl rfl (by exact isl_get _ _ (by omega)) rfl) ?_
      refine DL_cy rfl rfl (op_eql _ _ rfl rfl rfl) ?_
      refine DL_c (op_pick _ _ _ rfl (rfl : _ = AV.v (.bool _))) ?_
      refine DL_nil (hK19 _ ?_)
      clear hK19; try clear K19
      refine D_splitC rfl (fun hc61 => ?_) (fun hc61 => ?_)
      ·skip
       refine D_le (σ' := mkStI 66 [(0, _), (2, _), (7, _), (10, _), (11, _), (12, _)] [((7, 0), _)] [] []) (by
        refine Le.mkJ [] [] rfl ?_ ?_ trivial trivial ?_
        ·exact ⟨(iS rfl), (iV rfl), (iR rfl), (iV rfl), (iS rfl), (iV rfl), trivial⟩
        ·exact ⟨(obE rfl rfl rfl), trivial⟩
        ·kernel_rfl) ?_
       refine D_region ?_
       refine DL_c (mvR rfl) ?_
       refine DL_c (mvI rfl) ?_
       refine DL_c (op_ixR _ _ inferInstance rfl rfl rfl k rfl (by omega) (by exact (Nat.zero_add _).trans (Nat.mul_one _))) ?_
       refine DL_c (op_stR _ _ inferInstance rfl rfl rfl rfl rfl (by (simp only [isl_len, bsl_len, psl_len, mrows_len, nsl_len, ws_len, List.length_map, ul_len, psl_len, isl_len, nrows_len, prL_len, blR_len, stK_len, inh1_len, st0_len, List.length_cons, List.length_nil]; omega)) rfl) ?_
       refine DL_nil (hK18 _ ?_)
       clear hK18; try clear K18
       refine D_region ?_
       refine DL_c (mvI rfl) ?_
       refine DL_c (op_add _ _ rfl rfl (i64w (by omega))) ?_
       refine DL_c (asI rfl) ?_
       refine DL_nil ?_
       refine ⟨j + 1, ?_, ?_, ?_⟩
       ·omega
       ·skip
        refine Le.mkJ [] [] rfl ?_ ?_ trivial trivial ?_
        ·exact ⟨(iS rfl), (iV rfl), (iR rfl), (iV rfl), (iS rfl), (lvI (by rfl)), trivial⟩
        ·exact ⟨(obR rfl rfl rfl (by rw [hin, if_pos ⟨hg55, hc61⟩, isl_put _ _ _ (by omega)])), trivial⟩
        ·kernel_rfl
       ·omega
      ·skip
       refine D_skip (hK18 _ ?_)
       clear hK18; try clear K18
       refine D_le (σ' := mkStI 66 [(0, _), (2, _), (7, _), (10, _), (11, _), (12, _)] [((7, 0), _)] [] []) (by
        refine Le.mkJ [] [] rfl ?_ ?_ trivial trivial ?_
        ·exact ⟨(iS rfl), (iV rfl), (iR rfl), (iV rfl), (iS rfl), (iV rfl), trivial⟩
        ·exact ⟨(obE rfl rfl rfl), trivial⟩
        ·kernel_rfl) ?_
       refine D_region ?_
       refine DL_c (mvI rfl) ?_
       refine DL_c (op_add _ _ rfl rfl (i64w (by omega))) ?_
       refine DL_c (asI rfl) ?_
       refine DL_nil ?_
       refine ⟨j + 1, ?_, ?_, ?_⟩
       ·omega
       ·skip
        refine Le.mkJ [] [] rfl ?_ ?_ trivial trivial ?_
        ·exact ⟨(iS rfl), (iV rfl), (iR rfl), (iV rfl), (iS rfl), (lvI (by rfl)), trivial⟩
        ·exact ⟨(obR rfl rfl rfl (by rw [hin, if_neg (fun h => hc61 h.2)])), trivial⟩
        ·kernel_rfl
       ·omega
     ·skip
      refine DL_cn rfl rfl (by decide) ?_
      refine DL_cn rfl rfl (by decide) ?_
      refine DL_cn rfl rfl (by decide) ?_
      refine DL_cn rfl rfl (by decide) ?_
      refine DL_cn rfl rfl (by decide) ?_
      refine DL_c (op_pick _ _ _ rfl (rfl : _ = AV.v (.bool _))) ?_
      refine DL_nil (hK19 _ ?_)
      clear hK19; try clear K19
      refine D_cF rfl rfl ?_
      refine D_skip (hK18 _ ?_)
      clear hK18; try clear K18
      refine D_le (σ' := mkStI 66 [(0, _), (2, _), (7, _), (10, _), (11, _), (12, _)] [((7, 0), _)] [] []) (by
       refine Le.mkJ [] [] rfl ?_ ?_ trivial trivial ?_
       ·exact ⟨(iS rfl), (iV rfl), (iR rfl), (iV rfl), (iS rfl), (iV rfl), trivial⟩
       ·exact ⟨(obE rfl rfl rfl), trivial⟩
       ·kernel_rfl) ?_
      refine D_region ?_
      refine DL_c (mvI rfl) ?_
      refine DL_c (op_add _ _ rfl rfl (i64w (by omega))) ?_
      refine DL_c (asI rfl) ?_
      refine DL_nil ?_
      refine ⟨j + 1, ?_, ?_, ?_⟩
      ·omega
      ·skip
       refine Le.mkJ [] [] rfl ?_ ?_ trivial trivial ?_
       ·exact ⟨(iS rfl), (iV rfl), (iR rfl), (iV rfl), (iS rfl), (lvI (by rfl)), trivial⟩
       ·exact ⟨(obR rfl rfl rfl (by rw [hin, if_neg (fun h => hg55 h.1)])), trivial⟩
       ·kernel_rfl
      ·omega
    ·skip
     have hjl : (upE Ps k).take j = upE Ps k := List.take_of_length_le (by omega)
     refine D_exit ?_
     refine id (hK13 _ ?_)
     clear hK13; try clear K13
     refine D_region ?_
     refine DL_c (mvI rfl) ?_
     refine DL_c (op_add _ _ rfl rfl (i64w (by omega))) ?_
     refine DL_c (asI rfl) ?_
     refine DL_nil ?_
     refine ⟨k + 1, ?_, ?_, ?_⟩
     ·omega
     ·skip
      refine Le.mkJ [] [] rfl ?_ ?_ trivial trivial ?_
      ·exact ⟨(iS rfl), (iV rfl), (iR rfl), (lvI (by rfl)), trivial⟩
      ·exact ⟨(obR rfl rfl rfl (by rw [hss, hjl])), trivial⟩
      ·kernel_rfl
     ·omega
   ·skip
    have hfin : stK Ps l b k = status32 Ps l b := by
     have hb : b = false := by simpa using hc35
     subst hb; exact stK_false Ps l k _
    refine D_exit ?_
    refine id (hK9 _ ?_)
    clear hK9; try clear K9
    refine D_seq fun K20 hK20 => ?_
    refine D_region ?_
    refine DL_c (mvR rfl) ?_
    refine DL_c (asR rfl) ?_
    refine DL_nil (hK20 _ ?_)
    clear hK20; try clear K20
    refine D_ret ?_
    rw [← hfin]
    exact ret1 (.inr rfl) rfl (.tmp (rfl : _ = AV.ref _ _ _)) (Le.out [] [(7, 0)] (frz0 rfl rfl (by rw [isl_len, stK_len, hPl]; exact Nat.mul_one _) rfl) rfl rfl rfl ⟨rfl, trivial⟩ trivial)
  ·skip
   have hfin : stK Ps l b k = status32 Ps l b := by rw [status32, hPl, show k = v by omega]
   refine DL_cn rfl rfl (by decide) ?_
   refine DL_c (op_pick _ _ _ rfl (rfl : _ = AV.v (.bool _))) ?_
   refine DL_nil (hK12 _ ?_)
   clear hK12; try clear K12
   refine D_cF rfl rfl ?_
   refine D_exit ?_
   refine id (hK9 _ ?_)
   clear hK9; try clear K9
   refine D_seq fun K21 hK21 => ?_
   refine D_region ?_
   refine DL_c (mvR rfl) ?_
   refine DL_c (asR rfl) ?_
   refine DL_nil (hK21 _ ?_)
   clear hK21; try clear K21
   refine D_ret ?_
   rw [← hfin]
   exact ret1 (.inr rfl) rfl (.tmp (rfl : _ = AV.ref _ _ _)) (Le.out [] [(7, 0)] (frz0 rfl rfl (by rw [isl_len, stK_len, hPl]; exact Nat.mul_one _) rfl) rfl rfl rfl ⟨rfl, trivial⟩ trivial)
end Go.Proofs.Ytkbkmngbenohkaa

namespace Go.Proofs.Ytkbkmngbenohkaa
open Go.RowKit

theorem upE_eq {Ps : List (List Int)} (h64 : Ps.length ≤ 64) {v : Nat} (hv : v < Ps.length) : upE Ps v = (List.range Ps.length).filter fun u => decide (u = v) || cl (edg Ps Ps.length 0) u v := by
 unfold upE wat
 rw [if_pos (by omega), Int.toNat_natCast, ancW_get hv, aw1, els_cw h64]
theorem upE_trans {Ps : List (List Int)} (h64 : Ps.length ≤ 64) {u v w : Nat} (hv : v < Ps.length) (hw : w < Ps.length) (h1 : u ∈ upE Ps v) (h2 : v ∈ upE Ps w) : u ∈ upE Ps w := by
 obtain ⟨h3, h4⟩ := (upE_mem h64 hv).1 h1
 obtain ⟨_, h5⟩ := (upE_mem h64 hw).1 h2
 refine (upE_mem h64 hw).2 ⟨h3, ?_⟩
 rcases h4 with rfl | h4
 ·exact h5
 ·rcases h5 with rfl | h5
  ·exact .inr h4
  ·exact .inr (h4.trans h5)
theorem getD_mem' {α : Type} {l : List α} {k : Nat} (d : α) (h : k < l.length) : l.getD k d ∈ l := by
 rw [List.getD_eq_getElem?_getD, List.getElem?_eq_getElem h]; exact List.getElem_mem h
end Go.Proofs.Ytkbkmngbenohkaa

namespace Go.Proofs.Ytkbkmngbenohkaa
open Go.RowKit

theorem newN_spec {n : Nat} {Ps : List (List Int)} (h : Near Ps) (hn : Ps.length = n) :
  Spec Try.prog 58 (inSt [.sl n (nrows Ps)] []) (outSt (.tup [.fp 0 (gra n (parW Ps) (ancW n (edg Ps n 0))), .v (.int .i64 0)]) []) := by
 subst hn
 have h14 := h.n
 have hN := vnew_spec Ps.length Ps rfl (by omega) (fun v => by have := h.rows v; omega) fun hV _ a _ => by
  rw [nxt_edg a Ps.length fun v hv => (hV v hv).1, List.length_map]
  exact Nat.le_trans (filter_few (a := a) (m := 4) _ fun v hp => by
   rw [decide_eq_true_eq] at hp
   by_cases hv : v < Ps.length
   ·have := (h.r v hv).1.b _ hp; omega
   ·rw [List.getD_eq_getElem?_getD, List.getElem?_eq_none (by omega)] at hp; cases hp) (by decide)
 rw [newV_ok (by omega) h.valid h.acyc] at hN
 exact hN
theorem hasNN_spec (n : Nat) (l : List Nat) (x : Nat) (hn : l.length = n) (h1 : n ≤ 1000000) :
  Spec Try.prog 42 (inSt [.sl n (nsl l), .v (.int .i64 (x : Int))] []) (outSt (.v (.bool (decide (x ∈ l)))) []) := by
 have h := has_spec n (l.map fun (x : Nat) => (x : Int)) (x : Int) (by simp [hn]) (by omega)
 have e : decide ((x : Int) ∈ l.map fun (x : Nat) => (x : Int)) = decide (x ∈ l) := by
  rw [Bool.eq_iff_iff, decide_eq_true_eq, decide_eq_true_eq, List.mem_map]
  constructor
  ·rintro ⟨y, h1, h2⟩
   have : y = x := by omega
   exact this ▸ h1
  ·exact fun h => ⟨x, h, rfl⟩
 rw [e] at h
 exact h
end Go.Proofs.Ytkbkmngbenohkaa

namespace Go.Proofs.Ytkbkmngbenohkaa
open Go.RowKit

section
variable {P : Program} {σ τ : St}
def St.join (σ τ : St) : St := { σ with ob := fun id => orFree (σ.ob id) (τ.ob id) }
theorem orFree_l {s : Slot} (h : s = .free) (t : Slot) : orFree s t = t := by rw [h]; rfl
theorem orFree_r {s t : Slot} (h : t = .free) : orFree s t = s := by rw [h]; cases s <;> rfl
open Classical in
theorem RelI.join {K Kc : Ctx} {ι ι2 : Oid → Option Blk} {S S2 T : Nat → Prop} {a : Act} {w w' : World} {v : Value} (R : RelI K ι S σ a w) (R2 : RelI Kc ι2 S2 τ ⟨#[v], []⟩ w') (hw : Kc.w0 = w) (hown : ∀ g, ¬ Kc.own g)
  (hTS : ∀ g, T g → S2 g) (hT : ∀ g, T g → S g ∨ w.heap.size ≤ g) (hob : ∀ id o, τ.ob id = .obj o → ObjOk ι2 T w' id o) (hinc : ∀ id, τ.inc id = false) (hdis : ∀ id, τ.ob id = .free ∨ σ.ob id = .free) :
  RelI K (fun id => if τ.ob id = .free then ι id else ι2 id) (fun g => S g ∨ T g) (σ.join τ) a w' := by
 subst hw
 have hb : Below Kc.w0.heap.size Kc.w0 w' := ⟨R2.keeps.os, R2.keeps.tape, R2.keeps.output, R2.keeps.size, fun g hg => R2.keeps.block g hg (hown g)⟩
 have hfre : ∀ {id}, τ.ob id ≠ .free → σ.ob id = .free := fun {id} h => (hdis id).resolve_left h
 have hge : ∀ id B g, ι2 id = some B → B.g = some g → Kc.w0.heap.size ≤ g := fun id B g h1 h2 => (R2.sep id B g h1 h2).2.2 (hinc id)
 refine R.gen (fun id => τ.ob id ≠ .free) (.of_below hb) (fun id h => ?_) (fun id h => ?_) (fun _ _ => rfl) (fun id h => ?_) (fun g h => .inl h) (fun g h => ?_) (fun g h => ?_) (fun id B h _ => .inr (hfre h)) (fun id o h ho => ?_) (fun id B h hB => ?_) (fun id id' B B' g h hB hB' hg hg' => ?_) (fun id B g h hB hg => ?_) (fun id x o h hp => ?_)
 ·simp only [ne_eq, Decidable.not_not] at h; simp [h]
 ·simp only [ne_eq, Decidable.not_not] at h
  exact orFree_r h
 ·revert h
  show orFree _ _ = _ → _
  cases σ.ob id <;> intro h <;> first | rfl | cases h
 ·rcases h with h | h
  ·exact .inl h
  ·exact (hT g h).imp id .inl
 ·rcases h with h | h
  ·exact Nat.lt_of_lt_of_le (R.Slt g h) hb.size
  ·exact R2.Slt g (hTS g h)
 ·have e : orFree (σ.ob id) (τ.ob id) = .obj o := ho
  rw [orFree_l (hfre h)] at e
  refine ⟨(hob id o e).next (by simp [h]) (fun _ _ _ _ => rfl) (fun _ _ => rfl) (fun g hg => .inr hg) (fun id' B hi hB => ?_), fun id' hi => ?_⟩
  ·have hn := R2.clo id o id' e hi
   simpa [hn] using hB
  ·have hn := R2.clo id o id' e hi
   show orFree _ _ ≠ _
   rw [orFree_l (hfre hn)]; exact hn
 ·rw [if_neg h] at hB
  obtain ⟨o, ho⟩ := R2.dom id B hB
  exact ⟨o, by show orFree _ _ = _; rw [orFree_l (hfre h)]; exact ho⟩
 ·rw [if_neg h] at hB
  by_cases h' : τ.ob id' = .free
  ·rw [if_pos h'] at hB'
   have := R.lt hB' hg'
   have := hge id B g hB hg
   omega
  ·rw [if_neg h'] at hB'
   exact R2.inj id id' B B' g hB hB' hg hg'
 ·rw [if_neg h] at hB
  have h1 := hge id B g hB hg
  refine ⟨fun hs => ?_, .inr (Nat.le_trans R.keeps.size h1), fun _ => Nat.le_trans R.keeps.size h1⟩
  rcases hs with hs | hs
  ·have := R.Slt g hs; omega
  ·exact (R2.sep id B g hB hg).1 (hTS g hs)
 ·rw [R.pf id (hfre h)] at hp; cases hp
variable {o : Oper}
theorem Spec.named {f : FuncId} {σ0 : St} (id : Oid) {n : Nat} {e : TypeId} {sz : Nat} {xs : List PV} (h : Spec P f σ0 (outSt (.ref (0, 8) 0 n) [((0, 8), .row e sz xs)])) : Spec P f σ0 (outSt (.ref id 0 n) [(id, .row e sz xs)]) := by
 have h1 : rnOf [(id, (0, 8))] id = (0, 8) := by simp [rnOf, oeq_self]
 have h2 : inO id [id] = true := by simp [inO, oeq_self]
 refine h.mono (Le.outO (I := []) (Pn := []) [(id, (0, 8))] [] (lvRr h1 rfl) ?_ rfl ?_ trivial ⟨⟨?_, ⟨_, ?_, .rowE rfl⟩, ?_⟩, trivial⟩)
 ·simp [AV.within, h2]
 ·simp [nodupO, inO]
 ·rfl
 ·rw [h1]; rfl
 ·rfl
end
end Go.Proofs.Ytkbkmngbenohkaa

namespace Go.Proofs.Ytkbkmngbenohkaa
open Go.RowKit

def mentK : List (Int × Value) → Nat → List MapEntry
 | [], _ => []
 | p :: l, i => ⟨.int .i64 p.1, p.2, i⟩ :: mentK l (i + 1)
def ment (M : List (Int × Value)) : List MapEntry := mentK M 0
theorem mentK_len : ∀ (M : List (Int × Value)) (i : Nat), (mentK M i).length = M.length
 | [], _ => rfl
 | p :: l, i => by simp [mentK, mentK_len l]
@[simp] theorem ment_len (M : List (Int × Value)) : (ment M).length = M.length := mentK_len M 0
theorem mentK_get : ∀ (M : List (Int × Value)) (i j : Nat), (mentK M i)[j]? = (M[j]?).map fun p => ⟨.int .i64 p.1, p.2, i + j⟩
 | [], _, _ => by simp [mentK]
 | p :: l, i, 0 => by simp [mentK]
 | p :: l, i, j + 1 => by
  simp only [mentK, List.getElem?_cons_succ, mentK_get l]
  rw [show i + 1 + j = i + (j + 1) by omega]
theorem ment_get (M : List (Int × Value)) (j : Nat) : (ment M)[j]? = (M[j]?).map fun p => ⟨.int .i64 p.1, p.2, j⟩ := by rw [ment, mentK_get, Nat.zero_add]
theorem mentK_app : ∀ (M : List (Int × Value)) (p : Int × Value) (i : Nat), mentK (M ++ [p]) i = mentK M i ++ [⟨.int .i64 p.1, p.2, i + M.length⟩]
 | [], p, i => rfl
 | q :: l, p, i => by
  simp only [List.cons_append, mentK, mentK_app l, List.length_cons]
  rw [show i + 1 + l.length = i + (l.length + 1) by omega]
theorem ment_app (M : List (Int × Value)) (p : Int × Value) : ment (M ++ [p]) = ment M ++ [⟨.int .i64 p.1, p.2, M.length⟩] := by rw [ment, mentK_app, Nat.zero_add]; rfl
def fndK (k : Int) : List (Int × Value) → Nat → Option (Nat × Value)
 | [], _ => none
 | p :: l, i => if k = p.1 then some (i, p.2) else fndK k l (i + 1)
def mget (M : List (Int × Value)) (k : Int) : Option Value := (fndK k M 0).map (·.2)
theorem fndK_none {k : Int} : ∀ {M : List (Int × Value)} {i : Nat}, (∀ p ∈ M, p.1 ≠ k) → fndK k M i = none
 | [], _, _ => rfl
 | p :: l, i, h => by
  rw [fndK, if_neg (fun e => h p List.mem_cons_self e.symm)]
  exact fndK_none fun q hq => h q (List.mem_cons_of_mem _ hq)
theorem mget_none {M : List (Int × Value)} {k : Int} (h : ∀ p ∈ M, p.1 ≠ k) : mget M k = none := by rw [mget, fndK_none h]; rfl
theorem fndK_some {k : Int} {v : Value} : ∀ {M : List (Int × Value)} {i : Nat}, (∃ p ∈ M, p.1 = k) → (∀ p ∈ M, p.1 = k → p.2 = v) → ∃ j, fndK k M i = some (j, v)
 | [], _, h, _ => by obtain ⟨_, h, _⟩ := h; cases h
 | p :: l, i, h, hv => by
  by_cases hk : k = p.1
  ·exact ⟨i, by rw [fndK, if_pos hk, hv p List.mem_cons_self hk.symm]⟩
  ·rw [fndK, if_neg hk]
   obtain ⟨q, hq, hqk⟩ := h
   rcases List.mem_cons.1 hq with rfl | hq
   ·exact absurd hqk.symm hk
   ·exact fndK_some ⟨q, hq, hqk⟩ fun p hp => hv p (List.mem_cons_of_mem _ hp)
theorem mget_some {M : List (Int × Value)} {k : Int} {v : Value} (h : ∃ p ∈ M, p.1 = k) (hv : ∀ p ∈ M, p.1 = k → p.2 = v) : mget M k = some v := by
 obtain ⟨j, hj⟩ := fndK_some (i := 0) h hv
 rw [mget, hj]; rfl
theorem findNow_ment (k : Int) : ∀ (M : List (Int × Value)) (b i : Nat), Instr.findNow (.int .i64) (.int .i64 k) (mentK M b) i = some (fndK k M i)
 | [], _, _ => rfl
 | p :: l, b, i => by
  simp only [mentK, Instr.findNow, Instr.sameNow, if_true, fndK]
  by_cases h : k = p.1
  ·simp [h]
  ·simp only [beq_eq_false_iff_ne.2 h, if_neg h]
   exact findNow_ment k l (b + 1) (i + 1)

variable {P : Program} {T k e : TypeId}
theorem run_chk {w : World} {b : Bool} {v : Value} (hk : P.underlying k = some (.int .i64)) : (Instr.checkKey b 10000 k v).run P w = .ok () w := by
 rw [show (10000 : Nat) = 9999 + 1 from rfl, Instr.checkKey]
 simp [run_underlying hk]
theorem run_fnd {w : World} {M : List (Int × Value)} {x : Int} (hk : P.underlying k = some (.int .i64)) : (Instr.findKey k (.int .i64 x) (ment M)).run P w = .ok (fndK x M 0) w := by
 simp [Instr.findKey, run_underlying hk, ment, findNow_ment]
theorem run_lookM {w : World} {g : Nat} {M : List (Int × Value)} {c : Nat} {x : Int} {z : Value} (ok : Bool) (hT : P.underlying T = some (.map k e)) (hk : P.underlying k = some (.int .i64)) (hz : (zeroValue e).run P w = .ok z w) (hb : w.heap[g]? = some (.map (ment M).toArray c)) :
  (Instr.lookup T (.map (some g)) (.int .i64 x) ok).run P w = .ok (if ok then .tuple #[(mget M x).getD z, .bool (mget M x).isSome] else (mget M x).getD z) w := by
 simp only [Instr.lookup, Sem.run_bind, run_underlying hT, Result.andThen_ok, getObj, Sem.run, hb, Result.andThen, run_chk hk, run_fnd hk, mget]
 cases h : fndK x M 0 with
 | none => simp [hz, run_fnd hk, h, Sem.run_map]
 | some p => obtain ⟨i, v⟩ := p; simp [run_fnd hk, h]
theorem run_updM {w : World} {g : Nat} {M : List (Int × Value)} {x : Int} {v : Value} (hT : P.underlying T = some (.map k e)) (hk : P.underlying k = some (.int .i64)) (hb : w.heap[g]? = some (.map (ment M).toArray M.length)) (hm : mget M x = none) :
  (Instr.mapUpdate T (.map (some g)) (.int .i64 x) v).run P w = .ok () (w.putObj g (.map (ment (M ++ [(x, v)])).toArray (M ++ [(x, v)]).length)) := by
 have hf : fndK x M 0 = none := by
  unfold mget at hm
  cases h : fndK x M 0 with
  | none => rfl
  | some p => rw [h] at hm; cases hm
 simp only [Instr.mapUpdate, Sem.run_bind, run_underlying hT, Result.andThen_ok, getObj, setObj, Sem.run, hb, Result.andThen, run_chk hk, run_fnd hk, hf, ment_app]
 simp [World.putObj]

section
variable {σ : St}
theorem RelI.mapAt {K : Ctx} {ι : Oid → Option Blk} {S : Nat → Prop} {a : Act} {w : World} (R : RelI K ι S σ a w) {x : Operand} {id : Oid} (hx : σ.eval x = .mp id) {es : List MapEntry} {c : Nat} (hid : σ.ob id = .obj (.mp es c)) :
  ∃ B g, ι id = some B ∧ B.g = some g ∧ a.eval x = .map (some g) ∧ w.heap[g]? = some (.map es.toArray c) := by
 obtain ⟨B, g, h1, h2, h3⟩ := R.ob id _ hid
 have hr := R.eval x
 rw [hx] at hr
 generalize hu : a.eval x = u at hr
 cases hr with
 | mp h _ =>
  obtain ⟨g', hg', rfl⟩ := h B h1
  rw [h2] at hg'
  obtain rfl := Option.some.inj hg'
  exact ⟨B, g, h1, h2, rfl, h3⟩
theorem op_mkM {dd : Option Tmp} {ty : TypeId} (id : Oid) (hid : σ.ob id = .free) : Stp P dd (.makeMap T none) ty σ ((σ.setOb id (.obj (.mp [] 0))).put dd (.mp id)) := by
 intro o hd ho ht
 subst hd
 intro K ι S a w R
 have hrun : (execOp a.eval o).run P w = .ok (.value (.map (some w.heap.size))) (w.alloc (.map #[] 0)) := by
  simp [execOp, ho, Instr.makeMap, newObj]; rfl
 have R1 := R.new (id := id) (o := .mp [] 0) (B := ⟨some w.heap.size, 0, 0⟩) hid ((Below.refl _ _).alloc (Nat.le_refl _) _) (fun g hg => by obtain rfl := Option.some.inj hg; exact Nat.le_refl _)
  ⟨_, _, setI_same _ _ _, rfl, heap_alloc_new w _⟩ (fun i hi => hi.elim)
 refine yields_value hrun ⟨_, S, R1.put o.dst (.mp (fun B hB => ?_) rfl) fun i hi => ?_⟩
 ·rw [setI_same] at hB
  obtain rfl := Option.some.inj hB
  exact ⟨_, rfl, rfl⟩
 ·cases hi; rw [St.setOb_same]; intro h; cases h
theorem op_lookM {dd : Option Tmp} {ty : TypeId} (x y : Operand) (hT : P.underlying T = some (.map k e)) (hk : P.underlying k = some (.int .i64)) {z : Value} (hz : ∀ w, (zeroValue e).run P w = .ok z w) {id : Oid} {M : List (Int × Value)} {c : Nat} (hx : σ.eval x = .mp id) (hid : σ.ob id = .obj (.mp (ment M) c))
  {n : Int} (hy : σ.eval y = .v (.int .i64 n)) {r : Option Value} (hr : mget M n = r) : Stp P dd (.lookup T x y true) ty σ (σ.put dd (.tup [.v (r.getD z), .v (.bool r.isSome)])) := by
 intro o hd ho ht
 subst hd; subst hr
 refine step_val fun K ι S a w R => ?_
 obtain ⟨B, g, h1, h2, h3, h4⟩ := R.mapAt hx hid
 have hi := R.eval y
 rw [hy] at hi
 have hi := hi.toV
 refine ⟨_, by simp only [execOp, ho, h3, hi, run_lookM true hT hk (hz w) h4, Sem.run_map, Sem.run_bind, Sem.run_pure, Result.andThen_ok, if_true]; rfl, .tup rfl fun j b hb => ?_, fun i hi => ?_⟩
 ·match j, hb with
  | 0, hb => cases hb; exact .v
  | 1, hb => cases hb; exact .v
  | j + 2, hb => simp at hb
 ·cases hi with
  | tup hm h => simp at hm; rcases hm with rfl | rfl <;> cases h
theorem op_look1 {dd : Option Tmp} {ty : TypeId} (x y : Operand) (hT : P.underlying T = some (.map k e)) (hk : P.underlying k = some (.int .i64)) {z : Value} (hz : ∀ w, (zeroValue e).run P w = .ok z w) {id : Oid} {M : List (Int × Value)} {c : Nat} (hx : σ.eval x = .mp id) (hid : σ.ob id = .obj (.mp (ment M) c))
  {n : Int} (hy : σ.eval y = .v (.int .i64 n)) {r : Value} (hr : (mget M n).getD z = r) : Stp P dd (.lookup T x y false) ty σ (σ.put dd (.v r)) := by
 intro o hd ho ht
 subst hd; subst hr
 refine step_val fun K ι S a w R => ?_
 obtain ⟨B, g, h1, h2, h3, h4⟩ := R.mapAt hx hid
 have hi := R.eval y
 rw [hy] at hi
 have hi := hi.toV
 exact ⟨_, by simp only [execOp, ho, h3, hi, run_lookM false hT hk (hz w) h4, Sem.run_map, Sem.run_bind, Sem.run_pure, Result.andThen_ok, if_false]; rfl, .v, fun i hi => by cases hi⟩
theorem op_updM {ty : TypeId} (x y v : Operand) (hT : P.underlying T = some (.map k e)) (hk : P.underlying k = some (.int .i64)) {id : Oid} {M M' : List (Int × Value)} {c c' : Nat} (hc : c = M.length) (hx : σ.eval x = .mp id) (hid : σ.ob id = .obj (.mp (ment M) c))
  {n : Int} (hy : σ.eval y = .v (.int .i64 n)) {u : Value} (hv : σ.eval v = .v u) (hr : mget M n = none) (hM : M ++ [(n, u)] = M') (hc' : M'.length = c') : Stp P none (.mapUpdate T x y v) ty σ ((σ.setOb id (.obj (.mp (ment M') c'))).put none .dead) := by
 intro o hd ho ht
 subst hc; subst hM; subst hc'
 intro K ι S a w R
 obtain ⟨B, g, h1, h2, h3, h4⟩ := R.mapAt hx hid
 have hi := R.eval y
 rw [hy] at hi
 have hi := hi.toV
 have hu := R.eval v
 rw [hv] at hu
 have hu := hu.toV
 have hrun : (execOp a.eval o).run P w = .ok .skip (w.putObj g (.map (ment (M ++ [(n, u)])).toArray (M ++ [(n, u)]).length)) := by
  simp only [execOp, ho, h3, hi, hu, run_updM hT hk h4 hr, Sem.run_map, Sem.run_bind, Sem.run_pure, Result.andThen_ok]
 have hot : ∀ k, k ≠ g → (w.putObj g (.map (ment (M ++ [(n, u)])).toArray (M ++ [(n, u)]).length)).heap[k]? = w.heap[k]? := fun k hk => World.putObj_heap_other hk
 have hk' : Keeps (fun k => B.g = some k) w (w.putObj g (.map (ment (M ++ [(n, u)])).toArray (M ++ [(n, u)]).length)) := ⟨rfl, rfl, rfl, by simp, fun k _ hn => hot k fun e => hn (e ▸ h2)⟩
 have R1 := R.upd (o' := .mp (ment (M ++ [(n, u)])) (M ++ [(n, u)]).length) hid h1 hk' ⟨B, g, h1, h2, by
  have := (Array.getElem?_eq_some_iff.1 h4).1
  simp [World.putObj, this]⟩ (fun i hi => hi.elim)
 refine yields_skip hrun ⟨ι, S, ?_⟩
 rw [hd]
 exact R1.put none .dead fun i hi => by cases hi
theorem op_rangeM {dd : Option Tmp} {ty : TypeId} (it : Oid) (x : Operand) (hT : P.underlying T = some (.map k e)) {id : Oid} {es : List MapEntry} {c : Nat} (hx : σ.eval x = .mp id) (hid : σ.ob id = .obj (.mp es c)) (hit : σ.ob it = .free) :
  Stp P dd (.range T x) ty σ ((σ.setOb it (.obj (.it id c #[] c))).put dd (.ptr it 0)) := by
 intro o hd ho ht
 subst hd
 intro K ι S a w R
 obtain ⟨B, g, h1, h2, h3, h4⟩ := R.mapAt hx hid
 have hne : id ≠ it := fun h => by rw [h, hit] at hid; cases hid
 have hrun : (execOp a.eval o).run P w = .ok (.value (.pointer (some ⟨w.heap.size, 0, none⟩))) (w.alloc (.mapIter (some g) c #[] c)) := by
  simp [execOp, ho, h3, Instr.range, run_underlying hT, getObj, Sem.run, h4, Result.andThen, newObj]
 have R1 := R.new (id := it) (o := .it id c #[] c) (B := ⟨some w.heap.size, 0, 0⟩) hit ((Below.refl _ _).alloc (Nat.le_refl _) _) (fun g hg => by obtain rfl := Option.some.inj hg; exact Nat.le_refl _)
  ⟨_, _, setI_same _ _ _, rfl, g, heap_alloc_new w _, fun B' hB' => by rw [setI_ne _ _ hne, h1] at hB'; obtain rfl := Option.some.inj hB'; exact h2⟩ (fun i hi => by
   have : i = id := hi
   subst this; right; rw [hid]; intro h; cases h)
 refine yields_value hrun ⟨_, S, R1.put o.dst (.ptr (fun B hB => ?_) rfl) fun i hi => ?_⟩
 ·rw [setI_same] at hB
  obtain rfl := Option.some.inj hB
  exact ⟨_, rfl, rfl⟩
 ·cases hi; rw [St.setOb_same]; intro h; cases h

def StpN (P : Program) (d : Option Tmp) (op : Op) (ty : TypeId) (σ : St) (Φ : St → Prop) : Prop := ∀ o : Oper, o.dst = d → o.op = op → o.type = ty → ∀ K ι S a w, RelI K ι S σ a w → Yields P o a.eval w fun v w' => ∃ σ', Φ σ' ∧ ∃ ι' S', RelI K ι' S' σ' (a.put o.dst v) w'
theorem DL_cN {rb : Bool} {Q : Exit → St → Prop} {ops : Array Oper} {rest : List Oper} {Φ : St → Prop} {d : Option Tmp} {op : Op} {ty : TypeId} {p : String} {af : Array Edge} (hs : StpN P d op ty σ Φ) (h : ∀ σ', Φ σ' → DL rb P ops Q rest σ') : DL rb P ops Q (⟨d, op, ty, p, af, none⟩ :: rest) σ := by
 intro K a w hr ⟨ι, S, R⟩
 refine wpListIn_plain rfl fun Kx hK => wpIn_of_yields (hs _ rfl rfl rfl K ι S a w R) ?_
 rintro v w' ⟨σ', hΦ, ι', S', R'⟩
 exact hK _ _ (h σ' hΦ K _ _ hr ⟨ι', S', R'⟩)
theorem RelI.itAt {K : Ctx} {ι : Oid → Option Blk} {S : Nat → Prop} {a : Act} {w : World} (R : RelI K ι S σ a w) {x : Operand} {it m : Oid} (hx : σ.eval x = .ptr it 0) {s t c : Nat} {seen : Array Nat} {es : List MapEntry} (hit : σ.ob it = .obj (.it m s seen t)) (hm : σ.ob m = .obj (.mp es c)) :
  ∃ B g mg, ι it = some B ∧ B.g = some g ∧ a.eval x = .pointer (some ⟨g, 0, none⟩) ∧ w.heap[g]? = some (.mapIter (some mg) s seen t) ∧ w.heap[mg]? = some (.map es.toArray c) ∧ (∀ B', ι m = some B' → B'.g = some mg) := by
 obtain ⟨B, g, h1, h2, mg, h3, h4⟩ := R.ob it _ hit
 obtain ⟨B', g', h5, h6, h7⟩ := R.ob m _ hm
 have := h4 B' h5
 rw [h6] at this
 obtain rfl := Option.some.inj this
 have hr := R.eval x
 rw [hx] at hr
 generalize hu : a.eval x = u at hr
 cases hr with
 | ptr h _ =>
  obtain ⟨g2, hg2, rfl⟩ := h B h1
  rw [h2] at hg2
  obtain rfl := Option.some.inj hg2
  exact ⟨B, g, g', h1, h2, rfl, h3, h7, h4⟩
theorem keeps_putAt {w w1 : World} {g : Nat} {o : Obj} (h : w1 = w ∨ w1 = w.drew) (hg : g < w.heap.size) : Keeps (fun k => k = g) w (ChangeMaps.setBlock w1 g o) ∧ (ChangeMaps.setBlock w1 g o).heap[g]? = some o ∧ ∀ k, k ≠ g → (ChangeMaps.setBlock w1 g o).heap[k]? = w.heap[k]? := by
 have hh : w1.heap = w.heap := by rcases h with rfl | rfl <;> rfl
 have hot : ∀ k, k ≠ g → (ChangeMaps.setBlock w1 g o).heap[k]? = w.heap[k]? := fun k hk => by
  simp [ChangeMaps.setBlock, hh, Array.getElem?_setIfInBounds, Ne.symm hk]
 refine ⟨⟨?_, ?_, ?_, ?_, fun k _ hk => hot k hk⟩, ?_, hot⟩
 ·rcases h with rfl | rfl <;> rfl
 ·rcases h with rfl | rfl <;> rfl
 ·rcases h with rfl | rfl <;> rfl
 ·simp [ChangeMaps.setBlock, hh]
 ·simp [ChangeMaps.setBlock, hh, hg]
theorem op_nextM {dd : Option Tmp} {ty : TypeId} (x : Operand) {it m : Oid} {M : List (Int × Value)} {seen : Array Nat} {c t : Nat} (hx : σ.eval x = .ptr it 0) (hit : σ.ob it = .obj (.it m c seen t)) (hm : σ.ob m = .obj (.mp (ment M) c)) (hc : c = M.length) (ht : c ≤ t) :
  StpN P dd (.next x false) ty σ fun σ' => ((∀ i, i < M.length → i ∈ seen) ∧ σ' = σ.put dd (.tup [.v (.bool false)])) ∨
   ∃ i p, M[i]? = some p ∧ i ∉ seen ∧ σ' = (σ.setOb it (.obj (.it m c (seen.push i) c))).put dd (.tup [.v (.bool true), .v (.int .i64 p.1), .v p.2]) := by
 intro o hd ho hty
 subst hd; subst hc
 intro K ι S a w R
 obtain ⟨B, g, mg, h1, h2, h3, h4, h5, h6⟩ := R.itAt hx hit hm
 have hmem : ∀ (e : MapEntry), e ∈ ment M → ∃ i p, M[i]? = some p ∧ e = ⟨.int .i64 p.1, p.2, i⟩ := fun e he => by
  obtain ⟨i, hi, rfl⟩ := List.getElem_of_mem he
  have := List.getElem?_eq_getElem hi
  rw [ment_get] at this
  obtain ⟨p, hp, h⟩ := Option.map_eq_some_iff.1 this
  exact ⟨i, p, hp, h.symm⟩
 have hold : ∀ x ∈ (ment M).toArray.toList, x.born < M.length := fun x hx => by
  obtain ⟨i, p, hp, rfl⟩ := hmem x (by simpa using hx)
  exact (List.getElem?_eq_some_iff.1 hp).1
 rcases run_next_at (P := P) w o.type g mg M.length t seen (ment M).toArray M.length h4 h5 hold ht with ⟨h7, h8⟩ | ⟨e, he, w1, hw1, h8⟩
 ·have hrun : (execOp a.eval o).run P w = .ok (.value (.tuple #[.bool false])) w := by simp only [execOp, ho, h3, h8, Sem.run_map, Sem.run_bind, Sem.run_pure, Result.andThen_ok]
  refine yields_value hrun ⟨_, .inl ⟨fun i hi => ?_, rfl⟩, ι, S, R.put o.dst (.tup rfl fun j b hb => ?_) fun i hi => ?_⟩
  ·have h9 : (ment M)[i]? = some ⟨.int .i64 M[i].1, M[i].2, i⟩ := by rw [ment_get]; simp [hi]
   by_cases hs : i ∈ seen
   ·exact hs
   ·exfalso
    have : (⟨.int .i64 M[i].1, M[i].2, i⟩ : MapEntry) ∈ (leftOf (ment M).toArray seen).toList := by
     simp [leftOf, List.mem_of_getElem? h9, hs]
    have h10 := List.length_pos_of_mem this
    simp [h7] at h10
  ·cases j with
   | zero => cases hb; exact .v
   | succ j => simp at hb
  ·cases hi with
   | tup hm h => simp at hm; subst hm; cases h
 ·have hlt : g < w.heap.size := R.lt h1 h2
  obtain ⟨hk1, hk2, hk3⟩ := keeps_putAt (o := .mapIter (some mg) M.length (seen.push e.born) M.length) hw1 hlt
  have hl : e ∈ ment M ∧ e.born ∉ seen := by simpa [leftOf] using he
  obtain ⟨i, p, hp, rfl⟩ := hmem e hl.1
  have hrun : (execOp a.eval o).run P w = .ok (.value (.tuple #[.bool true, .int .i64 p.1, p.2])) (ChangeMaps.setBlock w1 g (.mapIter (some mg) M.length (seen.push i) M.length)) := by simp only [execOp, ho, h3, h8, Sem.run_map, Sem.run_bind, Sem.run_pure, Result.andThen_ok]
  have R1 := R.upd (o' := .it m M.length (seen.push i) M.length) hit h1 (hk1.mono fun k hk => by subst hk; exact h2) ⟨B, g, h1, h2, mg, hk2, h6⟩ (fun id' hi => by
   have : id' = m := hi
   subst this; rw [hm]; intro h; cases h)
  refine yields_value hrun ⟨_, .inr ⟨i, p, hp, hl.2, rfl⟩, ι, S, R1.put o.dst (.tup rfl fun j b hb => ?_) fun i hi => ?_⟩
  ·match j, hb with
   | 0, hb => cases hb; exact .v
   | 1, hb => cases hb; exact .v
   | 2, hb => cases hb; exact .v
   | j + 3, hb => simp at hb
  ·cases hi with
   | tup hm h => simp at hm; rcases hm with rfl | rfl | rfl <;> cases h
theorem op_entryM {dd : Option Tmp} {ty : TypeId} (x : Operand) {it m : Oid} {M : List (Int × Value)} {seen : Array Nat} {s c i : Nat} {p : Int × Value} (hx : σ.eval x = .ptr it 0) (hit : σ.ob it = .obj (.it m s (seen.push i) c)) (hm : σ.ob m = .obj (.mp (ment M) c)) (hp : M[i]? = some p) :
  Stp P dd (.entry x) ty σ (σ.put dd (.tup [.v (.int .i64 p.1), .v p.2])) := by
 intro o hd ho hty
 subst hd
 refine step_val fun K ι S a w R => ?_
 obtain ⟨B, g, mg, h1, h2, h3, h4, h5, h6⟩ := R.itAt hx hit hm
 have he : (ment M)[i]? = some ⟨.int .i64 p.1, p.2, i⟩ := by rw [ment_get, hp]; rfl
 have hn : ((ment M).toArray.toList.map (·.born)).Nodup := by
  have : (ment M).map (·.born) = List.range M.length := by
   apply List.ext_getElem?
   intro j
   rw [List.getElem?_map, ment_get]
   by_cases hj : j < M.length
   ·simp [hj]
   ·simp [hj, List.getElem?_eq_none (Nat.le_of_not_lt hj)]
  simp only [this]
  exact List.nodup_range
 have h7 := run_entry_at (P := P) w g mg s seen (ment M).toArray c ⟨.int .i64 p.1, p.2, i⟩ h4 h5 (by simpa using List.mem_of_getElem? he) hn
 refine ⟨.tuple #[.int .i64 p.1, p.2], by simp only [execOp, ho, h3, h7, Sem.run_map, Sem.run_bind, Sem.run_pure, Result.andThen_ok], .tup rfl fun j b hb => ?_, fun i hi => ?_⟩
 ·match j, hb with
  | 0, hb => cases hb; exact .v
  | 1, hb => cases hb; exact .v
  | j + 2, hb => simp at hb
 ·cases hi with
  | tup hm h => simp at hm; rcases hm with rfl | rfl <;> cases h
end
end Go.Proofs.Ytkbkmngbenohkaa

namespace Go.Proofs.Ytkbkmngbenohkaa
open Go.RowKit Go.Shelf Go.Sort

def lay189 : Ren :=
  ⟨fun x => match x with
    | 189 => 121 | 125 => 138 | 257 => 137 | 128 => 149 | 129 => 150 | 294 => 140 | 295 => 141 | 296 => 142 | 297 => 143 | 298 => 144 | 299 => 145 | 216 => 146 | 300 => 147 | 301 => 148 | 328 => 152 | 329 => 153 | 330 => 154 | 331 => 155 | 332 => 156 | 215 => 157 | 343 => 158
    | n => n,
   fun x => match x with
    | 28 => 29 | 3 => 3 | 46 => 163 | 0 => 0 | 51 => 172 | 53 => 124 | 4 => 4 | 183 => 166 | 182 => 165 | 131 => 156 | 5 => 5 | 9 => 9 | 218 => 175 | 222 => 179 | 228 => 181 | 229 => 182
    | n => n,
   fun n => n⟩
theorem lays189 : Lays.n189 Try.prog lay189 :=
{ mixed := Eq.refl true, f125 := Eq.trans Try.func138 (congrArg some (Eq.refl (Body.n125 lay189))),
  f128 := Eq.trans Try.func149 (congrArg some (Eq.refl (Body.n128 lay189))),
  f129 := Eq.trans Try.func150 (congrArg some (Eq.refl (Body.n129 lay189))),
  f189 := Eq.trans Try.func121 (congrArg some (Eq.refl (Body.n189 lay189))),
  f215 := Eq.trans Try.func157 (congrArg some (Eq.refl (Body.n215 lay189))),
  f216 := Eq.trans Try.func146 (congrArg some (Eq.refl (Body.n216 lay189))),
  f257 := Eq.trans Try.func137 (congrArg some (Eq.refl (Body.n257 lay189))),
  f294 := Eq.trans Try.func140 (congrArg some (Eq.refl (Body.n294 lay189))),
  f295 := Eq.trans Try.func141 (congrArg some (Eq.refl (Body.n295 lay189))),
  f296 := Eq.trans Try.func142 (congrArg some (Eq.refl (Body.n296 lay189))),
  f297 := Eq.trans Try.func143 (congrArg some (Eq.refl (Body.n297 lay189))),
  f298 := Eq.trans Try.func144 (congrArg some (Eq.refl (Body.n298 lay189))),
  f299 := Eq.trans Try.func145 (congrArg some (Eq.refl (Body.n299 lay189))),
  f300 := Eq.trans Try.func147 (congrArg some (Eq.refl (Body.n300 lay189))),
  f301 := Eq.trans Try.func148 (congrArg some (Eq.refl (Body.n301 lay189))),
  f328 := Eq.trans Try.func152 (congrArg some (Eq.refl (Body.n328 lay189))),
  f329 := Eq.trans Try.func153 (congrArg some (Eq.refl (Body.n329 lay189))),
  f330 := Eq.trans Try.func154 (congrArg some (Eq.refl (Body.n330 lay189))),
  f331 := Eq.trans Try.func155 (congrArg some (Eq.refl (Body.n331 lay189))),
  f332 := Eq.trans Try.func156 (congrArg some (Eq.refl (Body.n332 lay189))),
  f343 := Eq.trans Try.func158 (congrArg some (Eq.refl (Body.n343 lay189))), t0 := Try.underlying0,
  a0 := Try.isAgg0, z0 := Try.sizeOf0, v0 := Try.zeroValue0, t3 := Try.underlying3, a3 := Try.isAgg3, z3 := Try.sizeOf3,
  v3 := Try.zeroValue3, t4 := Try.underlying4, a4 := Try.isAgg4, z4 := Try.sizeOf4, v4 := Try.zeroValue4,
  t5 := Try.underlying5, a5 := Try.isAgg5, z5 := Try.sizeOf5, v5 := Try.zeroValue5, t9 := Try.underlying9,
  a9 := Try.isAgg9, z9 := Try.sizeOf9, v9 := Try.zeroValue9, t28 := Try.underlying29, a28 := Try.isAgg29,
  z28 := Try.sizeOf29, v28 := Try.zeroValue29, t46 := Try.underlying163, a46 := Try.isAgg163, z46 := Try.sizeOf163,
  v46 := Try.zeroValue163, t51 := Try.underlying172, a51 := Try.isAgg172, z51 := Try.sizeOf172, v51 := Try.zeroValue172,
  t53 := Try.underlying124, a53 := Try.isAgg124, z53 := Try.sizeOf124, v53 := Try.zeroValue124,
  t131 := Try.underlying156, a131 := Try.isAgg156, z131 := Try.sizeOf156, v131 := Try.zeroValue156,
  t182 := Try.underlying165, a182 := Try.isAgg165, z182 := Try.sizeOf165, v182 := Try.zeroValue165,
  t183 := Try.underlying166, a183 := Try.isAgg166, z183 := Try.sizeOf166, v183 := Try.zeroValue166,
  t218 := Try.underlying175, a218 := Try.isAgg175, z218 := Try.sizeOf175, v218 := Try.zeroValue175,
  t222 := Try.underlying179, a222 := Try.isAgg179, z222 := Try.sizeOf179, v222 := Try.zeroValue179,
  t228 := Try.underlying181, a228 := Try.isAgg181, z228 := Try.sizeOf181, v228 := Try.zeroValue181,
  t229 := Try.underlying182, a229 := Try.isAgg182, z229 := Try.sizeOf182, v229 := Try.zeroValue182 }
theorem isl_ofCells {S : Nat → Prop} {w : World} {L : List Int} {cur : Array Value} (h : ∀ j, j < (isl L).length → ∃ u, cur[j]? = some u ∧ u.oneCell' = true ∧ ∀ p, (isl L)[j]? = some p → Rd S w p u) : cur.toList.take L.length = L.map (Value.int .i64) := by
  apply List.ext_getElem?
  intro j
  by_cases hj : j < L.length
  · obtain ⟨u, h1, _, h2⟩ := h j (by simpa using hj)
    have h3 : (isl L)[j]? = some (.v (.int .i64 L[j])) := by simp [isl, hj]
    have h4 := h2 _ h3
    cases h4
    rw [List.getElem?_take_of_lt hj, Array.getElem?_toList, h1]
    simp [hj]
  · rw [List.getElem?_take_eq_none (by omega), List.getElem?_eq_none (by simp; omega)]
theorem sortG_spec (n : Nat) (hn : n ≤ 4611686018427387903) (L : List Int) (hL : L.length = n) :
    Spec Try.prog 121 (inStI [.ref (0, 9) 0 n] [((0, 9), .row 3 1 (isl L))]) (outStI (.tup []) [((0, 9), .row 3 1 (isl (srt L)))] [(0, 9)] [(0, 9)]) := by
  by_cases h12 : n ≤ 12
  · exact sort_spec n h12 L hL
  intro K ι S vs w hK hrd R
  obtain ⟨B, hB, hsz, hrow⟩ := R.ob (0, 9) (.row 3 1 (isl L)) rfl
  have hvs := R.nt
  simp only [inStI, List.length_cons, List.length_nil] at hvs
  obtain ⟨v, rfl⟩ : ∃ v, vs = #[v] := by
    match vs, hvs with
    | ⟨[v]⟩, _ => exact ⟨v, rfl⟩
  have hv := R.fr 0 (by simp [inStI])
  simp only [inStI] at hv
  have hv : Rep ι S w (.ref (0, 9) 0 n) v := by simpa using hv
  rcases hrow with ⟨_, h0, _⟩ | ⟨g, cur, hg, hb, hcs, hle, hcell⟩
  · rw [isl_len] at h0; omega
  · cases hv with
    | ref hh h1 =>
      obtain ⟨c, hc1, hc2, hc3⟩ := hh B hB
      rw [hg] at hc3
      obtain ⟨o', rfl, ho, htot⟩ := hc3
      obtain rfl := ho.resolve_right (by omega)
      have htk := isl_ofCells hcell
      have hlt : g < w.heap.size := (Array.getElem?_eq_some_iff.1 hb).1
      subst hL
      have hC := Any.slices_Sort_int lays189 g 0 c L w (holds_of_blockI hb htk) hlt (by omega)
      refine hC.mono ?_
      rintro e w' ⟨rfl, m, os, rfl⟩
      have hgr := grownBy_sortedI (w := w) (g := g) (n := m) (os := os) (srt L).toArray
      have hkeep : Keeps (fun k => B.g = some k) w (grow (putRow (Value.int .i64) (Sort.ahead w m) g 0 (srt L).toArray) os) := (Keeps.grown hgr).mono fun k hk => by rw [hg]; exact hk
      have hnew := heap_sortedI (n := m) (os := os) (srt L).toArray hb
      have R1 := R.upd (o' := .row 3 1 (isl (srt L))) (id := (0, 9)) rfl hB hkeep ⟨B, hB, hsz, .inr ⟨g, _, hg, hnew, by simp [putCells, hcs], by simp [putCells] at hle ⊢; omega, fun j hj => ?_⟩⟩ (fun i hi => hi.elim)
      · have R2 := R1.put (some 0) (av := .tup []) (v := .tuple #[]) (.tup rfl fun j b hb => by simp at hb) (fun id hi => by cases hi with | tup hm _ => simp at hm)
        refine ⟨.tuple #[], ι, S, rfl, ?_⟩
        have e1 : ((inStI [.ref (0, 9) 0 L.length] [((0, 9), .row 3 1 (isl L))]).setOb (0, 9) (.obj (.row 3 1 (isl (srt L))))).put (some 0) (.tup []) = outStI (.tup []) [((0, 9), .row 3 1 (isl (srt L)))] [(0, 9)] [(0, 9)] := by
          refine St.eq rfl (fun t => ?_) (fun i => ?_) rfl rfl
          · show (bif Nat.beq t 0 then _ else _) = (bif Nat.beq t 0 then _ else _)
            cases h : Nat.beq t 0 with
            | true => rfl
            | false =>
              cases t with
              | zero => simp at h
              | succ t => simp [inStI, St.setOb]
          · show (bif oeq i (0, 9) then _ else bif oeq i (0, 9) then _ else Slot.free) = bif oeq i (0, 9) then _ else Slot.free
            cases oeq i (0, 9) <;> rfl
        rw [e1] at R2
        exact R2
      · have hj' : j < L.length := by simpa using hj
        refine ⟨.int .i64 ((srt L).getD j 0), ?_, rfl, fun p hp => ?_⟩
        · have htk2 := take_putCellsI cur (srt L) (by rw [srt_len]; rw [isl_len] at hle; exact hle)
          have h3 := congrArg (fun l => l[j]?) htk2
          simp only [srt_len] at h3
          rw [List.getElem?_take_of_lt hj', Array.getElem?_toList] at h3
          rw [h3]
          simp [List.getD_eq_getElem?_getD, hj']
        · rw [isl_get _ _ (by simpa using hj')] at hp
          cases hp
          exact .v rfl
end Go.Proofs.Ytkbkmngbenohkaa

namespace Go.Proofs.Ytkbkmngbenohkaa
open Go.RowKit

inductive Ln (σ : St) : PV → AV → Prop where
  | v {x : Value} (h : x.oneCell' = true) : Ln σ (.v x) (.v x)
  | sl {n : Nat} {xs : List PV} : Ln σ (.sl n xs) (.sl n xs)
  | nil : Ln σ (.sl 0 []) (.v (.slice none 0 0))
  | fp {off : Nat} {xs : List PV} : Ln σ (.ptr off xs) (.fp off xs)
  | ref {id : Oid} {off n : Nat} {e : TypeId} {sz : Nat} {xs ys : List PV} (hid : σ.ob id = .obj (.row e sz xs)) (hy : (xs.drop off).take (n * sz) = ys) (hl : off + n * sz ≤ xs.length) : Ln σ (.sl n ys) (.ref id off n)
  | ptr {id : Oid} {off : Nat} {e : TypeId} {xs : List AV} {ys : List PV} (hid : σ.ob id = .obj (.box e xs)) (hl : ys.length ≤ xs.length) (h : ∀ (j : Nat) (p : PV) (a : AV), ys[j]? = some p → xs[j]? = some a → Ln σ p a) : Ln σ (.ptr off ys) (.ptr id off)
  | fn {f : Fn} {xs us : List PV} {ys vs : List AV} (hl : xs.length = ys.length) (h : ∀ (j : Nat) (p : PV) (a : AV), xs[j]? = some p → ys[j]? = some a → Ln σ p a)
      (hl' : us.length = vs.length) (h' : ∀ (j : Nat) (p : PV) (a : AV), us[j]? = some p → vs[j]? = some a → Ln σ p a) : Ln σ (.fn f xs us) (.fn f ys vs)
theorem ln_nil {σ : St} {ys : List AV} : ∀ (j : Nat) (p : PV) (a : AV), ([] : List PV)[j]? = some p → ys[j]? = some a → Ln σ p a := by simp
theorem ln_cons {σ : St} {p : PV} {a : AV} {ps : List PV} {bs : List AV} (h : Ln σ p a) (hs : ∀ (j : Nat) (p : PV) (a : AV), ps[j]? = some p → bs[j]? = some a → Ln σ p a) : ∀ (j : Nat) (q : PV) (b : AV), (p :: ps)[j]? = some q → (a :: bs)[j]? = some b → Ln σ q b := by
  intro j q b hq hb
  cases j with
  | zero => simp at hq hb; subst hq; subst hb; exact h
  | succ j => exact hs j q b (by simpa using hq) (by simpa using hb)

theorem Ln.rd {K : Ctx} {ι : Oid → Option Blk} {S S1 : Nat → Prop} {σ : St} {act : Act} {w : World} (R : RelI K ι S σ act w) (hS : ∀ g, S g → S1 g) (hF : ∀ id B g, ι id = some B → B.g = some g → S1 g) {p : PV} {a : AV} (h : Ln σ p a) : ∀ {v : Value}, Rep ι S w a v → Rd S1 w p v := by
  induction h with
  | v h1 => intro v hv; cases hv; exact .v h1
  | sl => intro v hv; cases hv with
    | sl h => exact h.next (fun _ _ => rfl) hS
  | nil => intro v hv; cases hv; exact .sl0 (Nat.le_refl _) (by unfold maxLen; omega) fun _ => ⟨rfl, rfl⟩
  | fp => intro v hv; cases hv with
    | fp h => exact h.next (fun _ _ => rfl) hS
  | ref hid hy hl =>
    intro v hv
    have := (Lv.frz (ρ := fun i => i) (F := fun _ => true) hid rfl hy hl).rep (ι1 := ι) (S1 := S1) R (fun _ _ h => h) hS (fun id B g _ a b => hF id B g a b) hv
    cases this with
    | sl h => exact h
  | ptr hid hl h ih =>
    intro v hv
    rename_i id off e xs ys
    obtain ⟨B, g, hB, hg, htot, hrow⟩ := R.ob id _ hid
    cases hv with
    | ptr hp _ =>
      obtain ⟨g', hg', rfl⟩ := hp B hB
      rw [hg] at hg'
      obtain rfl := Option.some.inj hg'
      rcases hrow with ⟨h6, _⟩ | ⟨g', cur, h10, h11, h12, h13, h14⟩
      · rw [hg] at h6; cases h6
      · rw [hg] at h10
        obtain rfl := Option.some.inj h10
        have := Rd.ptr (S := S1) (w := w) (off := off) (b := g) (o := 0) (xs := ys) (fun j => cur.getD j undef) (.mk (hF id B g hB hg) h11) (fun j p hp => ?_) (fun j p hp => ?_)
        · simp only [Nat.zero_add] at this; exact this
        · have hj := (List.getElem?_eq_some_iff.1 hp).1
          obtain ⟨u, hu, _⟩ := h14 j (by omega)
          exact cell_in h11 (by simp [hu])
        · have hj := (List.getElem?_eq_some_iff.1 hp).1
          have ha := List.getElem?_eq_getElem (show j < xs.length by omega)
          obtain ⟨u, hu, hu1, hu2⟩ := h14 j (by omega)
          simp only [Array.getD_eq_getD_getElem?, hu, Option.getD_some]
          exact ih j p _ hp ha (hu2 _ ha)
  | fn hl h hl' h' ih ih' =>
    intro v hv
    cases hv with
    | fn a1 a2 a3 a4 =>
      refine .fn (by omega) (by omega) (fun j p hp => ?_) fun j p hp => ?_
      · have hj := (List.getElem?_eq_some_iff.1 hp).1
        exact ih j p _ hp (List.getElem?_eq_getElem (show j < _ by omega)) (a3 j _ (List.getElem?_eq_getElem (show j < _ by omega)))
      · have hj := (List.getElem?_eq_some_iff.1 hp).1
        exact ih' j p _ hp (List.getElem?_eq_getElem (show j < _ by omega)) (a4 j _ (List.getElem?_eq_getElem (show j < _ by omega)))

def ArgsD (σ : St) (avs args : List AV) : Prop := args.length = avs.length ∧ ∀ (j : Nat) (x a : AV), avs[j]? = some x → args[j]? = some a → Lv id σ (fun _ => true) a x ∨ ∃ p, Ln σ p x ∧ a = p.up
theorem argsD_nil {σ : St} : ArgsD σ [] [] := ⟨rfl, by simp⟩
theorem argsD_cons {σ : St} {x a : AV} {xs args : List AV} (h : Lv id σ (fun _ => true) a x ∨ ∃ p, Ln σ p x ∧ a = p.up) (hs : ArgsD σ xs args) : ArgsD σ (x :: xs) (a :: args) := by
  refine ⟨by simp [hs.1], fun j y b hy hb => ?_⟩
  cases j with
  | zero => simp at hy hb; subst hy; subst hb; exact h
  | succ j => exact hs.2 j y b (by simpa using hy) (by simpa using hb)
theorem argD {σ : St} {x a : AV} {p : PV} (h : Ln σ p x) (he : p.up = a) : Lv id σ (fun _ => true) a x ∨ ∃ p, Ln σ p x ∧ a = p.up := .inr ⟨p, h, he.symm⟩
theorem RelI.argsD {K : Ctx} {ι : Oid → Option Blk} {S : Nat → Prop} {σ : St} {a : Act} {w : World} (R : RelI K ι S σ a w) {avs args : List AV} (h : ArgsD σ avs args) (hp : AV.pures args = true)
    {vs : Array Value} (hv : vs.size = avs.length) (hr : ∀ (j : Nat) (x : AV), avs[j]? = some x → Rep ι S w x (vs.getD j undef)) :
    RelI ⟨w, fun _ => False, fun g => S g ∨ ∃ id B, ι id = some B ∧ B.g = some g, fun _ => none, none⟩ (fun _ => none) (fun g => S g ∨ ∃ id B, ι id = some B ∧ B.g = some g) (inSt args []) ⟨vs, []⟩ w := by
  refine ⟨Keeps.refl _ _, fun g h => .inl h, fun g hg => ?_, by simp [inSt, h.1, hv], .nil, fun t ht => ?_, fun t id hb => ?_, fun id' o id ho => (by cases ho), fun id o ho => (by cases ho), fun id B hB => (by cases hB), fun id id' B B' g hB => (by cases hB), fun id B g hB => (by cases hB), fun id h o hp => (by cases hp), fun id _ => rfl⟩
  · rcases hg with hg | ⟨id, B, h2, h3⟩
    · exact R.Slt g hg
    · exact R.lt h2 h3
  · simp only [inSt] at ht ⊢
    have hx : t < avs.length := by rw [← h.1]; exact ht
    have hax : args.getD t .dead = args[t] := by simp [List.getD_eq_getElem?_getD, ht]
    rw [hax]
    rcases h.2 t _ _ (List.getElem?_eq_getElem hx) (List.getElem?_eq_getElem ht) with h1 | ⟨p, h1, h2⟩
    · exact h1.rep (ι1 := fun _ => none) R (fun id B hB => by cases hB) (S1 := fun g => S g ∨ ∃ id B, ι id = some B ∧ B.g = some g) (fun g h => .inl h) (fun id B g _ b c => .inr ⟨id, B, b, c⟩) (hr t _ (List.getElem?_eq_getElem hx))
    · rw [h2]
      exact (h1.rd R (S1 := fun g => S g ∨ ∃ id B, ι id = some B ∧ B.g = some g) (fun g h => .inl h) (fun id B g b c => .inr ⟨id, B, b, c⟩) (hr t _ (List.getElem?_eq_getElem hx))).up
  · simp only [inSt] at hb
    by_cases ht : t < args.length
    · rw [List.getD_eq_getElem?_getD, List.getElem?_eq_getElem ht] at hb
      exact absurd hb (pures_has args hp _ (List.getElem_mem ht))
    · rw [List.getD_eq_getElem?_getD, List.getElem?_eq_none (by omega)] at hb
      cases hb
section
variable {P : Program} {σ τ : St} {o : Oper}
theorem st_callBD {f : FuncId} {avs : List AV} (hE : EntersAt P o σ f avs) {args : List AV} {x : Value} (sp : Spec P f (inSt args []) (outSt (.v x) []))
    (ha : ArgsD σ avs args) (hp : AV.pures args = true) : Step P o σ (σ.put o.dst (.v x)) := by
  intro K ι S a w R
  obtain ⟨vs, hrun, hvs, hrep⟩ := hE K ι S a w R
  have R1 := R.argsD ha hp hvs hrep
  refine yields_call hrun (sp _ _ _ _ w rfl rfl R1) ?_
  rintro e w' ⟨v, ι', S', rfl, R2⟩
  refine ⟨v, rfl, ?_⟩
  have hb : Below w.heap.size w w' := ⟨R2.keeps.os, R2.keeps.tape, R2.keeps.output, R2.keeps.size, fun g hg => R2.keeps.block g hg (by simp)⟩
  have R3 := R.gen (ι' := ι) (S' := S) (w' := w') (ob' := σ.ob) (inc' := σ.inc) (fun _ => False) (.of_below hb) (fun _ _ => rfl) (fun _ _ => rfl) (fun _ _ => rfl) (fun _ h => h) (fun g h => h)
    (fun g h => .inl h) (fun g h => Nat.lt_of_lt_of_le (R.Slt g h) hb.size)
    (fun _ _ h => h.elim) (fun _ _ h => h.elim) (fun _ _ h => h.elim) (fun _ _ _ _ _ h => h.elim) (fun _ _ _ h => h.elim) (fun _ _ _ h => h.elim)
  refine ⟨ι, _, R3.put o.dst (av := .v x) ?_ fun id hi => noHasV hi⟩
  have := R2.fr 0 (by simp [outSt])
  simp only [outSt, Nat.beq_refl, cond_true] at this
  have := (by simpa using this : Rep ι' S' w' (.v x) v).toV
  rw [this]; exact .v
theorem op_callBD {dd : Option Tmp} {ty : TypeId} {f : FuncId} {xs : Array Operand} {ats : Array TypeId} (C : Cbl P f) {args : List AV} {x : Value} (ha : ArgsD σ (xs.toList.map σ.eval) args) (sp : Spec P f (inSt args []) (outSt (.v x) []))
    (hp : AV.pures args = true) : Stp P dd (.call { callee := .value (.func f), args := xs, argTypes := ats }) ty σ (σ.put dd (.v x)) := fun o hd ho ht => by subst hd; exact st_callBD (.fnc ho C) sp ha hp
mutual
theorem ren_id {ρ : Oid → Oid} {ids : List Oid} (h : ∀ i, inO i ids = true → ρ i = i) : ∀ (a : AV), a.within ids = true → a.ren ρ = a
  | .dead, _ => rfl
  | .v _, _ => rfl
  | .sl _ _, _ => rfl
  | .fp _ _, _ => rfl
  | .z, _ => rfl
  | .mp i, hw => by simp only [AV.ren, h i hw]
  | .ref i _ _, hw => by simp only [AV.ren, h i hw]
  | .ptr i _, hw => by simp only [AV.ren, h i hw]
  | .agg xs, hw => by simp only [AV.ren, rens_id h xs hw]
  | .fn f xs ys, hw => by
    simp only [AV.within, Bool.and_eq_true] at hw
    simp only [AV.ren, rens_id h xs hw.1, rens_id h ys hw.2]
  | .ifc t a, hw => by simp only [AV.ren, ren_id h a hw]
  | .tup xs, hw => by simp only [AV.ren, rens_id h xs hw]
theorem rens_id {ρ : Oid → Oid} {ids : List Oid} (h : ∀ i, inO i ids = true → ρ i = i) : ∀ (l : List AV), AV.withins ids l = true → AV.rens ρ l = l
  | [], _ => rfl
  | a :: l, hw => by
    simp only [AV.withins, Bool.and_eq_true] at hw
    simp only [AV.rens, ren_id h a hw.1, rens_id h l hw.2]
end
mutual
theorem ren_all : ∀ (a : AV), a.ren (fun i => i) = a
  | .dead => rfl
  | .v _ => rfl
  | .sl _ _ => rfl
  | .fp _ _ => rfl
  | .z => rfl
  | .mp i => rfl
  | .ref i _ _ => rfl
  | .ptr i _ => rfl
  | .agg xs => by simp only [AV.ren, rens_all xs]
  | .fn f xs ys => by simp only [AV.ren, rens_all xs, rens_all ys]
  | .ifc t a => by simp only [AV.ren, ren_all a]
  | .tup xs => by simp only [AV.ren, rens_all xs]
theorem rens_all : ∀ (l : List AV), AV.rens (fun i => i) l = l
  | [] => rfl
  | a :: l => by simp only [AV.rens, ren_all a, rens_all l]
end
mutual
theorem lv_within {ρ : Oid → Oid} {F : Oid → Bool} {ids : List Oid} (h : ∀ i, inO i ids = true → ρ i = i) : ∀ (a : AV), a.within ids = true → Lv ρ σ F a a
  | .dead, _ => .dead
  | .v _, _ => .v
  | .sl _ _, _ => .sl
  | .fp _ _, _ => .fp
  | .z, _ => .z
  | .mp i, hw => by have := Lv.mp (ρ := ρ) (σ := σ) (F := F) (id := i); rwa [h i hw] at this
  | .ref i o n, hw => lvRr (h i hw) rfl
  | .ptr i o, hw => lvPr (h i hw)
  | .agg xs, hw => .agg rfl fun j a b ha hb => by rw [ha] at hb; cases hb; exact lvs_within h xs hw j a ha
  | .fn f xs ys, hw => by
    simp only [AV.within, Bool.and_eq_true] at hw
    exact .fn rfl (fun j a b ha hb => by rw [ha] at hb; cases hb; exact lvs_within h xs hw.1 j a ha) rfl fun j a b ha hb => by rw [ha] at hb; cases hb; exact lvs_within h ys hw.2 j a ha
  | .ifc t a, hw => .ifc (lv_within h a hw)
  | .tup xs, hw => .tup rfl fun j a b ha hb => by rw [ha] at hb; cases hb; exact lvs_within h xs hw j a ha
theorem lvs_within {ρ : Oid → Oid} {F : Oid → Bool} {ids : List Oid} (h : ∀ i, inO i ids = true → ρ i = i) : ∀ (l : List AV), AV.withins ids l = true → ∀ (j : Nat) (a : AV), l[j]? = some a → Lv ρ σ F a a
  | [], _, j, a, ha => by simp at ha
  | x :: l, hw, 0, a, ha => by
    simp only [AV.withins, Bool.and_eq_true] at hw
    simp at ha; subst ha; exact lv_within h x hw.1
  | x :: l, hw, j + 1, a, ha => by
    simp only [AV.withins, Bool.and_eq_true] at hw
    exact lvs_within h l hw.2 j a (by simpa using ha)
end
theorem lvO_within {ρ : Oid → Oid} {F : Oid → Bool} {ids : List Oid} (h : ∀ i, inO i ids = true → ρ i = i) (o : Cells) (hw : o.within ids = true) : LvO ρ σ F o o := by
  cases o with
  | row e sz xs => exact .row (List.append_nil xs).symm
  | box e xs => exact .box rfl fun j a b ha hb => by rw [ha] at hb; cases hb; exact lvs_within h xs hw j a ha
  | rowA e sz xs => exact .rowA rfl fun j a b ha hb => by rw [ha] at hb; cases hb; exact lvs_within h xs hw j a ha
  | mp => exact .mp
  | it m a b c => have := LvO.it (ρ := ρ) (σ := σ) (F := F) (m := m) (since := a) (seen := b) (stepped := c); rwa [h m hw] at this
theorem cren_all (o : Cells) : o.ren (fun i => i) = o := by
  cases o with
  | row => rfl
  | box e xs => simp only [Cells.ren, rens_all xs]
  | rowA e sz xs => simp only [Cells.ren, rens_all xs]
  | mp => rfl
  | it m => rfl
theorem cren_id {ρ : Oid → Oid} {ids : List Oid} (h : ∀ i, inO i ids = true → ρ i = i) (o : Cells) (hw : o.within ids = true) : o.ren ρ = o := by
  cases o with
  | row => rfl
  | box e xs => simp only [Cells.ren, rens_id h xs hw]
  | rowA e sz xs => simp only [Cells.ren, rens_id h xs hw]
  | mp => rfl
  | it m => simp only [Cells.ren, h m hw]
theorem obsWithin_mem {ids : List Oid} : ∀ {l : List (Oid × Cells)}, obsWithin ids l = true → ∀ {x}, x ∈ l → x.2.within ids = true
  | [], _, x, h => by simp at h
  | y :: l, hw, x, h => by
    simp only [obsWithin, Bool.and_eq_true] at hw
    rcases List.mem_cons.1 h with rfl | h
    · exact hw.1
    · exact obsWithin_mem hw.2 h
theorem inO_app {i j : Oid} {l : List Oid} (h : inO i l = true) : inO i (l ++ [j]) = true := inO_iff.2 (List.mem_append_left _ (inO_iff.1 h))
mutual
theorem within_app {ids : List Oid} {j : Oid} : ∀ (a : AV), a.within ids = true → a.within (ids ++ [j]) = true
  | .dead, _ => rfl
  | .v _, _ => rfl
  | .sl _ _, _ => rfl
  | .fp _ _, _ => rfl
  | .z, _ => rfl
  | .mp _, h => inO_app h
  | .ref _ _ _, h => inO_app h
  | .ptr _ _, h => inO_app h
  | .agg xs, h => by simp only [AV.within] at h ⊢; exact withins_app xs h
  | .fn f xs ys, h => by
    simp only [AV.within, Bool.and_eq_true] at h ⊢
    exact ⟨withins_app xs h.1, withins_app ys h.2⟩
  | .ifc t a, h => by simp only [AV.within] at h ⊢; exact within_app a h
  | .tup xs, h => by simp only [AV.within] at h ⊢; exact withins_app xs h
theorem withins_app {ids : List Oid} {j : Oid} : ∀ (l : List AV), AV.withins ids l = true → AV.withins (ids ++ [j]) l = true
  | [], _ => rfl
  | a :: l, h => by
    simp only [AV.withins, Bool.and_eq_true] at h ⊢
    exact ⟨within_app a h.1, withins_app l h.2⟩
end
theorem cwithin_app {ids : List Oid} {j : Oid} {o : Cells} (h : o.within ids = true) : o.within (ids ++ [j]) = true := by
  cases o with
  | row => rfl
  | box e xs => exact withins_app xs h
  | rowA e sz xs => exact withins_app xs h
  | mp => rfl
  | it m => exact inO_app h
theorem keptB_app {ins Pn : List Oid} {c : Cells} : ∀ {l : List (Oid × Cells)}, keptB ins Pn l = true → ∀ {j : Oid}, inO j ins = false → keptB ins Pn (l ++ [(j, c)]) = true
  | [], _, j, hj => by simp [keptB, hj]
  | (i, o) :: l, h, j, hj => by
    simp only [keptB, Bool.and_eq_true] at h
    simp only [List.cons_append, keptB, Bool.and_eq_true]
    exact ⟨h.1, keptB_app h.2 hj⟩
def AllKept (σ : St) : List (Oid × Cells) → Prop
  | [] => True
  | (i, o) :: l => σ.ob i = .obj o ∧ AllKept σ l
theorem allKept_mem : ∀ {l : List (Oid × Cells)}, AllKept σ l → ∀ {i o}, (i, o) ∈ l → σ.ob i = .obj o
  | [], _, i, o, h => by simp at h
  | (k, c) :: l, h, i, o, hm => by
    rcases List.mem_cons.1 hm with h0 | hm
    · obtain ⟨rfl, rfl⟩ := Prod.mk.inj h0; exact h.1
    · exact allKept_mem h.2 hm
theorem keep_mem {I : List Oid} {SS : List (Oid × Cells)} (hI : SS.map (·.1) = I) {c : Oid} (h : c ∈ I) : ∃ o, (c, o) ∈ SS := by
  subst hI
  obtain ⟨⟨i, o⟩, hm, rfl⟩ := List.mem_map.1 h
  exact ⟨o, hm⟩
theorem after_kept {SS : List (Oid × Cells)} {I : List Oid} (hI : SS.map (·.1) = I) (hk : AllKept σ SS) (hn : nodupO I = true) : σ.afterP (rnOf []) SS I I = σ := by
  have hid : I.map (rnOf []) = I := by rw [rnOf_nil]; simp
  have hno : ((SS.map (·.1)).map (rnOf [])).Nodup := by rw [hI, hid]; exact nodupO_iff hn
  have hren : ∀ o : Cells, o.ren (rnOf []) = o := fun o => by rw [rnOf_nil]; exact cren_all o
  refine St.eq rfl (fun _ => rfl) (fun c => ?_) (funext fun c => ?_) rfl
  · show obAfter _ _ _ _ c = _
    by_cases hc : c ∈ I
    · obtain ⟨o, ho⟩ := keep_mem hI hc
      have := obAfter_out (ins := I) (ob := σ.ob) hno ho
      rw [hren] at this
      exact this.trans (allKept_mem hk ho).symm
    · rw [obAfter_other (by rw [hI, hid]; exact hc), hid]
      have : inO c I = false := by
        cases h : inO c I with
        | true => exact absurd (inO_iff.1 h) hc
        | false => rfl
      rw [this]; rfl
  · show incP _ _ _ _ _ _ c = _
    by_cases hc : c ∈ I
    · have := incP_out (ins := I) (I := I) (any := anyInc σ ((notIn SS I).map (rnOf []))) (inc := σ.inc) hno (hI ▸ hc)
      rw [inO_iff.2 hc, cond_true] at this
      exact this
    · exact incP_other (by rw [hI, hid]; exact hc)
theorem rn1_ne {id i : Oid} (h : i ≠ (0, 8)) : rnOf [((0, 8), id)] i = i := by simp [rnOf, oeq_ne h]
theorem rn1_eq {id : Oid} : rnOf [((0, 8), id)] (0, 8) = id := by simp [rnOf, oeq_self]
theorem map_rn1 {id : Oid} : ∀ {I : List Oid}, inO (0, 8) I = false → I.map (rnOf [((0, 8), id)]) = I
  | [], _ => rfl
  | i :: l, h => by
    simp only [inO, Bool.or_eq_false_iff] at h
    have : i ≠ (0, 8) := fun e => by rw [e, oeq_self] at h; cases h.1
    rw [List.map_cons, rn1_ne this, map_rn1 h.2]
theorem after_keptN {SS : List (Oid × Cells)} {I : List Oid} {id : Oid} {c : Cells} (hI : SS.map (·.1) = I) (hk : AllKept σ SS) (hn : nodupO I = true) (h8 : inO (0, 8) I = false) (hw : obsWithin I SS = true) (hid : σ.ob id = .free) (hii : σ.inc id = false) (hc0 : c.within I = true) :
    σ.afterP (rnOf [((0, 8), id)]) (SS ++ [((0, 8), c)]) I I = σ.setOb id (.obj c) := by
  have hidI : id ∉ I := fun h => by
    obtain ⟨o, ho⟩ := keep_mem hI h
    have := allKept_mem hk ho
    rw [hid] at this; cases this
  have hno : (((SS ++ [((0, 8), c)]).map Prod.fst).map (rnOf [((0, 8), id)])).Nodup := by
    rw [List.map_append, hI, List.map_append, map_rn1 h8]
    simp only [List.map_cons, List.map_nil, rn1_eq]
    exact List.nodup_append.2 ⟨nodupO_iff hn, by simp, fun a ha b hb e => by simp at hb; subst hb; subst e; exact hidI ha⟩
  have hρ : ∀ i, inO i I = true → rnOf [((0, 8), id)] i = i := fun i hi => rn1_ne fun e => by rw [e, h8] at hi; cases hi
  have hren : ∀ o : Cells, o.within I = true → o.ren (rnOf [((0, 8), id)]) = o := fun o ho => cren_id hρ o ho
  have hSw : ∀ {l : List (Oid × Cells)}, obsWithin I l = true → ∀ {i o}, (i, o) ∈ l → o.within I = true := by
    intro l
    induction l with
    | nil => intro _ i o h; simp at h
    | cons x l ih =>
      intro h i o hm
      simp only [obsWithin, Bool.and_eq_true] at h
      rcases List.mem_cons.1 hm with rfl | hm
      · exact h.1
      · exact ih h.2 hm
  have hmI : ∀ x : Oid, x ∉ I → x ≠ id → x ∉ ((SS ++ [((0, 8), c)]).map Prod.fst).map (rnOf [((0, 8), id)]) := fun x hx hxi => by
    rw [List.map_append, hI, List.map_append, map_rn1 h8]
    simp only [List.map_cons, List.map_nil, rn1_eq, List.mem_append, List.mem_singleton, not_or]
    exact ⟨hx, hxi⟩
  refine St.eq rfl (fun _ => rfl) (fun x => ?_) (funext fun x => ?_) rfl
  · show obAfter _ _ _ _ x = bif oeq x id then _ else _
    by_cases hx : x = id
    · subst hx
      have := obAfter_out (ins := I) (ob := σ.ob) hno (List.mem_append_right _ (List.mem_singleton_self _) : ((0, 8), c) ∈ SS ++ [((0, 8), c)])
      rw [rn1_eq, hren c hc0] at this
      rw [this, oeq_self]; rfl
    · rw [oeq_ne hx]
      by_cases hc : x ∈ I
      · obtain ⟨o, ho⟩ := keep_mem hI hc
        have := obAfter_out (ins := I) (ob := σ.ob) hno (List.mem_append_left _ ho)
        rw [hρ x (inO_iff.2 hc), hren o (hSw hw ho)] at this
        exact this.trans (allKept_mem hk ho).symm
      · rw [obAfter_other (hmI x hc hx), map_rn1 h8]
        have : inO x I = false := by
          cases h : inO x I with
          | true => exact absurd (inO_iff.1 h) hc
          | false => rfl
        rw [this]; rfl
  · show incP _ _ _ _ _ _ x = σ.inc x
    by_cases hx : x = id
    · subst hx
      have := incP_out (ins := I) (I := I) (any := anyInc σ ((notIn (SS ++ [((0, 8), c)]) I).map (rnOf [((0, 8), x)]))) (inc := σ.inc) hno (show ((0, 8) : Oid) ∈ (SS ++ [((0, 8), c)]).map Prod.fst by rw [List.map_append]; exact List.mem_append_right _ (by simp))
      rw [rn1_eq, h8, hii] at this
      exact this.trans hii.symm
    · by_cases hc : x ∈ I
      · have := incP_out (ins := I) (I := I) (any := anyInc σ ((notIn (SS ++ [((0, 8), c)]) I).map (rnOf [((0, 8), id)]))) (inc := σ.inc) hno (show x ∈ (SS ++ [((0, 8), c)]).map Prod.fst by rw [List.map_append, hI]; exact List.mem_append_left _ hc)
        rw [hρ x (inO_iff.2 hc), inO_iff.2 hc, cond_true] at this
        exact this
      · exact incP_other (hmI x hc hx)
theorem allLvI_kept {SS : List (Oid × Cells)} {I : List Oid} {rn : List (Oid × Oid)} (hr : ∀ i, inO i I = true → rnOf rn i = i) (hk : AllKept σ SS) (hs : ∀ x ∈ SS, inO x.1 I = true ∧ x.2.within I = true) : AllLvI (rnOf rn) σ (fun _ => false) I SS := by
  induction SS with
  | nil => trivial
  | cons x l ih =>
    obtain ⟨i, o⟩ := x
    obtain ⟨h1, h2⟩ := hs _ List.mem_cons_self
    refine ⟨⟨rfl, ⟨o, by rw [hr i h1]; exact hk.1, ?_⟩, by rw [h1]; rfl⟩, ih hk.2 fun x hx => hs x (List.mem_cons_of_mem _ hx)⟩
    exact lvO_within hr o h2
theorem allFree_in {I : List Oid} {ρ : Oid → Oid} {l' : List (Oid × Cells)} (h' : AllFree σ ρ I l') : ∀ {l : List (Oid × Cells)}, (∀ x ∈ l, inO x.1 I = true) → AllFree σ ρ I (l ++ l')
  | [], _ => h'
  | (i, o) :: l, h => ⟨by rw [h (i, o) List.mem_cons_self]; rfl, allFree_in h' fun x hx => h x (List.mem_cons_of_mem _ hx)⟩
theorem st_callK0 {o : Oper} {f : FuncId} {avs : List AV} (hE : EntersAt P o σ f avs) (SS : List (Oid × Cells)) (I : List Oid) {args : List AV} {x : Value} (ha : ArgsR σ [] avs args)
    (sp : Spec P f (inStI args SS) (outStI (.v x) SS I I)) (hk : AllKept σ SS) (hI : SS.map (·.1) = I) (hb : (AV.withins I args && obsWithin I SS && nodupO I && keptB I I SS) = true) (h0 : I ≠ []) : Step P o σ (σ.put o.dst (.v x)) := by
  subst hI
  simp only [Bool.and_eq_true] at hb
  obtain ⟨⟨⟨h1, h2⟩, h3⟩, h4⟩ := hb
  have hid : (SS.map (·.1)).map (rnOf []) = SS.map (·.1) := by rw [rnOf_nil]; simp
  have hw : ∀ x ∈ SS, inO x.1 (SS.map (·.1)) = true ∧ x.2.within (SS.map (·.1)) = true := fun x hx => ⟨inO_iff.2 (List.mem_map_of_mem hx), obsWithin_mem h2 hx⟩
  have h := st_callP hE [] ha h1 h2 (allLvI_kept (rn := []) (fun _ _ => rfl) hk hw) (by rw [hid]; exact h3) h3 (by rw [hid]; exact h3) h3 (by
    have := allFree_in (σ := σ) (ρ := rnOf []) (I := SS.map (·.1)) (l' := []) trivial (l := SS) fun x hx => (hw x hx).1
    rwa [List.append_nil] at this) h4 (r := .v x) rfl h2 sp
  rw [after_kept rfl hk h3] at h
  exact h
theorem st_callK {o : Oper} {f : FuncId} {avs : List AV} (hE : EntersAt P o σ f avs) (id : Oid) (SS : List (Oid × Cells)) (I : List Oid) {args : List AV} {n : Nat} {e : TypeId} {sz : Nat} {cs : List PV} (ha : ArgsR σ [((0, 8), id)] avs args)
    (sp : Spec P f (inStI args SS) (outStI (.ref (0, 8) 0 n) (SS ++ [((0, 8), .row e sz cs)]) I I)) (hk : AllKept σ SS) (hid : σ.ob id = .free) (hii : σ.inc id = false) (hI : SS.map (·.1) = I) (hb : (AV.withins I args && obsWithin I SS && nodupO I && keptB I I SS && !inO (0, 8) I) = true) (h0 : I ≠ []) :
    Step P o σ ((σ.setOb id (.obj (.row e sz cs))).put o.dst (.ref id 0 n)) := by
  subst hI
  simp only [Bool.and_eq_true, Bool.not_eq_true'] at hb
  obtain ⟨⟨⟨⟨h1, h2⟩, h3⟩, h4⟩, h8⟩ := hb
  have hw : ∀ x ∈ SS, inO x.1 (SS.map (·.1)) = true ∧ x.2.within (SS.map (·.1)) = true := fun x hx => ⟨inO_iff.2 (List.mem_map_of_mem hx), obsWithin_mem h2 hx⟩
  have hρ : ∀ i, inO i (SS.map (·.1)) = true → rnOf [((0, 8), id)] i = i := fun i hi => rn1_ne fun e => by rw [e, h8] at hi; cases hi
  have hidI : inO id (SS.map (·.1)) = false := by
    cases h : inO id (SS.map (·.1)) with
    | false => rfl
    | true =>
      obtain ⟨o, ho⟩ := keep_mem rfl (inO_iff.1 h)
      have := (allKept_mem hk ho)
      rw [hid] at this; cases this
  have hmap : ((SS ++ [((0, 8), Cells.row e sz cs)]).map Prod.fst).map (rnOf [((0, 8), id)]) = SS.map (·.1) ++ [id] := by
    rw [List.map_append, List.map_append, map_rn1 h8]
    simp only [List.map_cons, List.map_nil, rn1_eq]
  have hnd : ∀ {l : List Oid} {i : Oid}, nodupO l = true → inO i l = false → nodupO (l ++ [i]) = true := by
    intro l i
    induction l with
    | nil => intro _ _; simp [nodupO, inO]
    | cons x l ih =>
      intro h h'
      simp only [nodupO, Bool.and_eq_true, Bool.not_eq_true'] at h
      simp only [inO, Bool.or_eq_false_iff] at h'
      simp only [List.cons_append, nodupO, Bool.and_eq_true, Bool.not_eq_true']
      refine ⟨?_, ih h.2 h'.2⟩
      cases hc : inO x (l ++ [i]) with
      | false => rfl
      | true =>
        rcases List.mem_append.1 (inO_iff.1 hc) with h4 | h4
        · rw [inO_iff.2 h4] at h; cases h.1
        · simp at h4; subst h4; rw [oeq_self] at h'; cases h'.1
  have hwO : ∀ {l : List (Oid × Cells)} {ids : List Oid} {i : Oid}, obsWithin ids l = true → obsWithin (ids ++ [i]) (l ++ [(i, .row e sz cs)]) = true := by
    intro l ids i
    induction l with
    | nil => intro _; rfl
    | cons x l ih =>
      intro h
      simp only [obsWithin, Bool.and_eq_true] at h
      simp only [List.cons_append, obsWithin, Bool.and_eq_true]
      exact ⟨cwithin_app h.1, ih h.2⟩
  have h := st_callP hE [((0, 8), id)] ha h1 h2 (allLvI_kept hρ hk hw) (by rw [map_rn1 h8]; exact h3) h3 (by rw [hmap]; exact hnd h3 hidI) (by rw [List.map_append]; exact hnd h3 h8) (allFree_in (σ := σ) (l' := [((0, 8), .row e sz cs)]) ⟨by rw [h8, rn1_eq]; exact hid, trivial⟩ fun x hx => (hw x hx).1)
    (keptB_app h4 h8) (r := .ref (0, 8) 0 n) (by
      rw [List.map_append]
      exact inO_iff.2 (List.mem_append_right _ (List.mem_singleton_self _))) (by rw [List.map_append]; exact hwO h2) sp
  rw [after_keptN rfl hk h3 h8 h2 hid hii rfl] at h
  simp only [AV.ren, rn1_eq] at h
  exact h
theorem op_callK0 {dd : Option Tmp} {ty : TypeId} {f : FuncId} {xs : Array Operand} {ats : Array TypeId} (C : Cbl P f) (SS : List (Oid × Cells)) (I : List Oid) {args : List AV} {x : Value} (ha : ArgsR σ [] (xs.toList.map σ.eval) args)
    (sp : Spec P f (inStI args SS) (outStI (.v x) SS I I)) (hk : AllKept σ SS) (hI : SS.map (·.1) = I) (hb : (AV.withins I args && obsWithin I SS && nodupO I && keptB I I SS) = true) (h0 : I ≠ []) : Stp P dd (.call { callee := .value (.func f), args := xs, argTypes := ats }) ty σ (σ.put dd (.v x)) :=
  fun o hd ho ht => by subst hd; exact st_callK0 (.fnc ho C) SS I ha sp hk hI hb h0
theorem op_callK {dd : Option Tmp} {ty : TypeId} {f : FuncId} {xs : Array Operand} {ats : Array TypeId} (C : Cbl P f) (id : Oid) (SS : List (Oid × Cells)) (I : List Oid) {args : List AV} {n : Nat} {e : TypeId} {sz : Nat} {cs : List PV} (ha : ArgsR σ [((0, 8), id)] (xs.toList.map σ.eval) args)
    (sp : Spec P f (inStI args SS) (outStI (.ref (0, 8) 0 n) (SS ++ [((0, 8), .row e sz cs)]) I I)) (hk : AllKept σ SS) (hid : σ.ob id = .free) (hii : σ.inc id = false) (hI : SS.map (·.1) = I) (hb : (AV.withins I args && obsWithin I SS && nodupO I && keptB I I SS && !inO (0, 8) I) = true) (h0 : I ≠ []) :
    Stp P dd (.call { callee := .value (.func f), args := xs, argTypes := ats }) ty σ ((σ.setOb id (.obj (.row e sz cs))).put dd (.ref id 0 n)) :=
  fun o hd ho ht => by subst hd; exact st_callK (.fnc ho C) id SS I ha sp hk hid hii hI hb h0
end
end Go.Proofs.Ytkbkmngbenohkaa

namespace Go.Proofs.Ytkbkmngbenohkaa
open Go.RowKit
section
variable {P : Program} {σ : St} {o : Oper} {T e : TypeId} {size bytes : Nat} {z : List Value}
theorem run_eqlS {w : World} {t e : TypeId} (a : Addr) (n c : Nat) (ht : P.underlying t = some (.slice e)) : (binOp .eql t (.slice (some a) n c) (.slice none 0 0)).run P w = .ok (.bool false) w := by
  have h1 (d : Nat) : (Op.equalIn (d + 1) t (.slice (some a) n c) (.slice none 0 0)).run P w = .ok false w := by
    simp [run_underlying ht, Op.equalIn]
  have h2 := h1 9999
  simp only [binOp]
  simp [Op.equal, Op.maxDepth, h2]
theorem op_eqlS {dd : Option Tmp} {ty : TypeId} {t t' e : TypeId} (x y : Operand) (h : P.underlying t = some (.slice e)) {n : Nat} (hx : (∃ xs, σ.eval x = .sl n xs) ∨ ∃ id off e sz xs, σ.eval x = .ref id off n ∧ σ.ob id = .obj (.row e sz xs)) (hn : 0 < n) (hy : σ.eval y = .v (.slice none 0 0)) : Stp P dd (.binOp .eql t x y t') ty σ (σ.put dd (.v (.bool false))) := by
  intro o hd ho ht
  subst hd
  refine step_val fun _ ι S a w R => ⟨_, ?_, .v, fun _ => noHasV⟩
  have hp : ∃ p m c, a.eval x = .slice (some p) m c := by
    rcases hx with ⟨xs, hx⟩ | ⟨id, off, e, sz, xs, hx, hid⟩
    · have hr := R.eval x
      rw [hx] at hr
      generalize a.eval x = u at hr
      cases hr with
      | sl h =>
        cases h with
        | sl0 h0 h1 h2 =>
          rename_i c ao
          cases ao with
          | none => have := h2 rfl; omega
          | some p => exact ⟨_, _, _, rfl⟩
        | sl => exact ⟨_, _, _, rfl⟩
    · obtain ⟨B, h1, _, _⟩ := R.ob id _ hid
      have hr := R.eval x
      rw [hx] at hr
      generalize a.eval x = u at hr
      cases hr with
      | ref h _ =>
        obtain ⟨c, _, _, h5⟩ := h B h1
        cases hg : B.g with
        | none => rw [hg] at h5; have := h5.2.1; omega
        | some g =>
          rw [hg] at h5
          obtain ⟨o', rfl, _⟩ := h5
          exact ⟨_, _, _, rfl⟩
  obtain ⟨p, m, c, hp⟩ := hp
  have h2 := Rep.evV R hy
  have hq := run_eqlS (w := w) p m c h
  clear h hx hy
  generalize a.eval = ρ at hp h2
  simp [execOp, ho, hp, h2, eqGuard, hq]
theorem op_apZR {dd : Option Tmp} {ty : TypeId} (id' : Oid) (s x : Operand) (E : Elem P T e size bytes z) (hs : σ.eval s = .z) {m : Nat} (hm : 0 < m) {news : List PV} (hx : SrcAV σ (σ.eval x) size m news) (hb : m * bytes ≤ 140737488355328) (hid' : σ.ob id' = .free) :
    Stp P dd (.call { callee := .builtin .append, args := #[s, x], argTypes := #[T, T] }) ty σ ((σ.setOb id' (.obj (.row e size news))).put dd (.ref id' 0 m)) := by
  intro o hd ho ht
  subst hd
  intro K ι S a w R
  have hv := R.eval s
  rw [hs] at hv
  obtain ⟨vs, hsl, hvl, hvr⟩ := hx.src R E.pos
  obtain ⟨v', w', hr, h4, h5, _, h7⟩ := run_app (P := P) (T := T) o.type 0 (.slice none 0 0) 0 [] (World.ownsRow_nil _ _ _ _) (a.eval x) m vs hsl (by simpa using hb) (Nat.zero_le _)
  have hrun : (execOp a.eval o).run P w = .ok (.value v') w' := by
    generalize hu : a.eval s = u at hv
    cases hv with
    | z =>
      rename_i ao
      have h0 : (Builtin.append_ #[T, T] o.type #[.slice ao 0 0, a.eval x]).run P w = .ok v' w' := by
        cases ao with
        | none => exact hr
        | some b => exact ((run_app0 (P := P) (T := T) w o.type b (a.eval x) m vs hsl hb).resolve_left fun h => by omega).trans hr
      unfold execOp
      simp only [ho, resolve, invoke, builtin, Sem.run_bind, Sem.run_pure, Result.andThen_ok, List.map_toArray, List.map_cons, List.map_nil, hu, h0]
  simp only [List.nil_append, Nat.zero_add] at h4
  have hbl : Below w.heap.size w w' := below_grown (by simpa [Value.ownBlock] using h5)
  rcases own_split h4 with ⟨hv', hn0, hu0⟩ | ⟨g, c, cur, hv', hg, hnc, hcm, hcs, hcu⟩
  · omega
  · subst hv'
    refine yields_value hrun (R.newRow hid' hbl e size m hg ?_ hnc hcm hcs (by rw [← hvl]; exact h4.1) (fun j b hb' => ?_) _)
    · rcases h7 with h | ⟨k, hk, hle⟩
      · simp [Value.ownBlock] at h
      · simp [Value.ownBlock] at hk; omega
    · obtain ⟨u, a1, a2, a3⟩ := hvr j b hb'
      exact ⟨u, hcu j u a1, a2, a3⟩
theorem op_callK0V {dd : Option Tmp} {ty : TypeId} {f : FuncId} {x0 : Operand} {xs : Array Operand} {ats : Array TypeId} {first caps : List AV} (hx : σ.eval x0 = .fn (.func f) first caps) (C : Cbl P f) (SS : List (Oid × Cells)) (I : List Oid) {args : List AV} {x : Value} (ha : ArgsR σ [] (first ++ xs.toList.map σ.eval ++ caps) args)
    (sp : Spec P f (inStI args SS) (outStI (.v x) SS I I)) (hk : AllKept σ SS) (hI : SS.map (·.1) = I) (hb : (AV.withins I args && obsWithin I SS && nodupO I && keptB I I SS) = true) (h0 : I ≠ []) : Stp P dd (.call { callee := .value x0, args := xs, argTypes := ats }) ty σ (σ.put dd (.v x)) :=
  fun o hd ho ht => by subst hd; exact st_callK0 (.fnv ho C hx) SS I ha sp hk hI hb h0
theorem op_callP {dd : Option Tmp} {ty : TypeId} {f : FuncId} {xs : Array Operand} {ats : Array TypeId} (C : Cbl P f) (rn : List (Oid × Oid)) {args : List AV} {ins outs : List (Oid × Cells)} {r : AV} {I Pn : List Oid}
    (ha : ArgsR σ rn (xs.toList.map σ.eval) args) (sp : Spec P f (inStI args ins) (outStI r outs I Pn)) (hins : AllLvI (rnOf rn) σ (fun _ => false) (ins.map (·.1)) ins) (hfr : AllFree σ (rnOf rn) (ins.map (·.1)) outs)
    (hb : (AV.withins (ins.map (·.1)) args && obsWithin (ins.map (·.1)) ins && nodupO ((ins.map (·.1)).map (rnOf rn)) && nodupO (ins.map (·.1)) && nodupO ((outs.map (·.1)).map (rnOf rn)) && nodupO (outs.map (·.1)) && keptB (ins.map (·.1)) Pn outs && r.within (outs.map (·.1)) && obsWithin (outs.map (·.1)) outs) = true) :
    Stp P dd (.call { callee := .value (.func f), args := xs, argTypes := ats }) ty σ ((σ.afterP (rnOf rn) outs (ins.map (·.1)) I).put dd (r.ren (rnOf rn))) := by
  intro o hd ho ht
  subst hd
  simp only [Bool.and_eq_true] at hb
  obtain ⟨⟨⟨⟨⟨⟨⟨⟨h1, h2⟩, h3⟩, h4⟩, h5⟩, h6⟩, h7⟩, h8⟩, h9⟩ := hb
  exact st_callP (.fnc ho C) rn ha h1 h2 hins h3 h4 h5 h6 hfr h7 h8 h9 sp
theorem op_callPV {dd : Option Tmp} {ty : TypeId} {f : FuncId} {x0 : Operand} {xs : Array Operand} {ats : Array TypeId} {first caps : List AV} (hx : σ.eval x0 = .fn (.func f) first caps) (C : Cbl P f) (rn : List (Oid × Oid)) {args : List AV} {ins outs : List (Oid × Cells)} {r : AV} {I Pn : List Oid}
    (ha : ArgsR σ rn (first ++ xs.toList.map σ.eval ++ caps) args) (sp : Spec P f (inStI args ins) (outStI r outs I Pn)) (hins : AllLvI (rnOf rn) σ (fun _ => false) (ins.map (·.1)) ins) (hfr : AllFree σ (rnOf rn) (ins.map (·.1)) outs)
    (hb : (AV.withins (ins.map (·.1)) args && obsWithin (ins.map (·.1)) ins && nodupO ((ins.map (·.1)).map (rnOf rn)) && nodupO (ins.map (·.1)) && nodupO ((outs.map (·.1)).map (rnOf rn)) && nodupO (outs.map (·.1)) && keptB (ins.map (·.1)) Pn outs && r.within (outs.map (·.1)) && obsWithin (outs.map (·.1)) outs) = true) :
    Stp P dd (.call { callee := .value x0, args := xs, argTypes := ats }) ty σ ((σ.afterP (rnOf rn) outs (ins.map (·.1)) I).put dd (r.ren (rnOf rn))) := by
  intro o hd ho ht
  subst hd
  simp only [Bool.and_eq_true] at hb
  obtain ⟨⟨⟨⟨⟨⟨⟨⟨h1, h2⟩, h3⟩, h4⟩, h5⟩, h6⟩, h7⟩, h8⟩, h9⟩ := hb
  exact st_callP (.fnv ho C hx) rn ha h1 h2 hins h3 h4 h5 h6 hfr h7 h8 h9 sp
theorem obT {ρ : Oid → Oid} {Fz : List Oid} {I : List Oid} {i m : Oid} {since t : Nat} {seen : Array Nat} (hF : inO (ρ i) Fz = false) (h : σ.ob (ρ i) = .obj (.it (ρ m) since seen t)) (hinc : (bif inO i I then false else σ.inc (ρ i)) = false) :
    inO (ρ i) Fz = false ∧ (∃ o2, σ.ob (ρ i) = .obj o2 ∧ LvO (ρ) σ (fun i => inO i Fz) (.it m since seen t) o2) ∧ (bif inO i I then false else σ.inc (ρ i)) = false := ⟨hF, ⟨_, h, .it⟩, hinc⟩
theorem lvO_k {id : Oid} {F : Oid → Bool} (I : List Oid) (h8 : inO (0, 8) I = false) {o : Cells} (hw : o.within I = true) : LvO (rnOf [((0, 8), id)]) σ F o o := lvO_within (fun i hi => rn1_ne fun e => by rw [e, h8] at hi; cases hi) o hw
theorem obW {ρ : Oid → Oid} {Fz : List Oid} {I : List Oid} {i : Oid} {o : Cells} (ids : List Oid) (hF : inO (ρ i) Fz = false) (h : σ.ob (ρ i) = .obj o) (hinc : (bif inO i I then false else σ.inc (ρ i)) = false) (hids : ids.all (fun j => oeq (ρ j) j) = true) (hw : o.within ids = true) :
    inO (ρ i) Fz = false ∧ (∃ o2, σ.ob (ρ i) = .obj o2 ∧ LvO (ρ) σ (fun i => inO i Fz) o o2) ∧ (bif inO i I then false else σ.inc (ρ i)) = false :=
  ⟨hF, ⟨_, h, lvO_within (fun j hj => oeq_iff.1 (List.all_eq_true.1 hids j (inO_iff.1 hj))) o hw⟩, hinc⟩
theorem lvW {ρ : Oid → Oid} {F : Oid → Bool} {a b : AV} (ids : List Oid) (hids : ids.all (fun j => oeq (ρ j) j) = true) (hb : b = a) (hw : a.within ids = true) : Lv ρ σ F a b :=
  by subst hb; exact lv_within (fun j hj => oeq_iff.1 (List.all_eq_true.1 hids j (inO_iff.1 hj))) _ hw
theorem insK {rn : List (Oid × Oid)} {SS : List (Oid × Cells)} (hk : AllKept σ SS) (hr : (SS.map (·.1)).all (fun i => oeq (rnOf rn i) i) = true) (hw : obsWithin (SS.map (·.1)) SS = true) : AllLvI (rnOf rn) σ (fun _ => false) (SS.map (·.1)) SS :=
  allLvI_kept (fun i hi => oeq_iff.1 (List.all_eq_true.1 hr i (inO_iff.1 hi))) hk fun _ hx => ⟨inO_iff.2 (List.mem_map_of_mem hx), obsWithin_mem hw hx⟩
end
theorem Le.frzRt {σ : St} (t : Nat) {id : Oid} {n : Nat} {e : TypeId} {xs : List AV} {ys : List PV} (hr : σ.fr t = .ref id 0 n) (hid : σ.ob id = .obj (.box e xs)) (hi : σ.inc id = false) (hy : downs xs = some ys) :
    Le ((σ.setOb id .gone).put (some t) (.sl n ys)) σ := by
  intro K ι S a w R
  have hob : ∀ i o, ((σ.setOb id .gone).put (some t) (.sl n ys)).ob i = .obj o → oeq i id = false ∧ σ.ob i = .obj o := by
    intro i o h
    rw [St.put_ob] at h
    simp only [St.setOb] at h
    cases hb : oeq i id with
    | true => rw [hb] at h; cases h
    | false => rw [hb] at h; exact ⟨rfl, h⟩
  have hnf : ∀ i, σ.ob i ≠ .free → ((σ.setOb id .gone).put (some t) (.sl n ys)).ob i ≠ .free := by
    intro i h h'
    rw [St.put_ob] at h'
    simp only [St.setOb] at h'
    cases hb : oeq i id with
    | true => rw [hb] at h'; cases h'
    | false => rw [hb] at h'; exact h h'
  refine Le.of (fun i => i) (fun i => oeq i id) (by rw [St.put_n]; rfl) (fun u hu => ?_) (fun i o h => ?_) (fun _ _ _ _ _ _ h => h) (fun i h => ?_) (fun i o h h' => ?_) (fun u i h => ?_) (fun i o j h h' => ?_) (fun i h o hp ho => ?_) (fun i h => ?_) K ι S a w R
  · show Lv _ _ _ (bif Nat.beq u t then _ else σ.fr u) _
    cases hb : Nat.beq u t with
    | true => rw [Nat.eq_of_beq_eq_true hb, hr]; exact .frzR hid (oeq_self id) hy
    | false => exact Lv.same _
  · obtain ⟨h1, h2⟩ := hob i o h
    exact ⟨h1, o, h2, LvO.same o⟩
  · rw [oeq_iff.1 h]; exact hi
  · exact h'
  · replace h : Has i (bif Nat.beq u t then _ else σ.fr u) := h
    cases hb : Nat.beq u t with
    | true => rw [hb] at h; cases h
    | false => rw [hb] at h; exact hnf i (R.cl u i h)
  · exact hnf j (R.clo i o j (hob i o h).2 h')
  · exact hp
  · refine R.pf i ?_
    rw [St.put_ob] at h
    simp only [St.setOb] at h
    cases hb : oeq i id with
    | true => rw [hb] at h; cases h
    | false => rw [hb] at h; exact h

theorem lvFrz {ρ : Oid → Oid} {σ : St} {F : Oid → Bool} {id : Oid} {e : TypeId} {sz n m : Nat} {xs ys : List PV} (hn : n = m) (hid : σ.ob id = .obj (.row e sz xs)) (hF : F id = true) (hl : n * sz = xs.length) (hy : xs = ys := by rfl) : Lv ρ σ F (.sl m ys) (.ref id 0 n) := by
  subst hn
  exact frz0 hid hF hl hy
end Go.Proofs.Ytkbkmngbenohkaa

namespace Go.Proofs.Ytkbkmngbenohkaa
open Go.RowKit

abbrev Rl := Nat → Nat → Bool
def nst (st : List Int) (v : Nat) : Int := if st.getD v 2 ≠ 0 ∧ st.getD v 2 ≠ 1 then 2 else st.getD v 2
def mmap (st : List Int) (ord : List Nat) : List (Int × Value) := ord.map fun (v : Nat) => ((v : Int), .int .i64 (nst st v))
@[simp] theorem mmap_len (st : List Int) (ord : List Nat) : (mmap st ord).length = ord.length := by simp [mmap]
theorem mmap_get {st : List Int} {ord : List Nat} {i : Nat} {p : Int × Value} (h : (mmap st ord)[i]? = some p) : ∃ v, ord[i]? = some v ∧ p = ((v : Int), .int .i64 (nst st v)) := by
 simp only [mmap, List.getElem?_map, Option.map_eq_some_iff] at h
 obtain ⟨v, h1, h2⟩ := h
 exact ⟨v, h1, h2.symm⟩
theorem mmap_none {st : List Int} {ord : List Nat} {v : Nat} (h : v ∉ ord) : mget (mmap st ord) (v : Int) = none := by
 refine mget_none fun p hp e => h ?_
 simp only [mmap, List.mem_map] at hp
 obtain ⟨u, hu, rfl⟩ := hp
 have : u = v := by simp only at e; omega
 exact this ▸ hu
theorem mmap_some {st : List Int} {ord : List Nat} {v : Nat} (h : v ∈ ord) : mget (mmap st ord) (v : Int) = some (.int .i64 (nst st v)) := by
 refine mget_some ⟨_, List.mem_map_of_mem h, rfl⟩ fun p hp e => ?_
 simp only [mmap, List.mem_map] at hp
 obtain ⟨u, hu, rfl⟩ := hp
 have : u = v := by simp only at e; omega
 rw [this]
theorem mmap_app (st : List Int) (ord : List Nat) (v : Nat) : mmap st ord ++ [((v : Int), .int .i64 (nst st v))] = mmap st (ord ++ [v]) := by simp [mmap]
def tst (n : Nat) (ord : List Nat) (st : List Int) (s : Int) : List Nat := (List.range n).filter fun v => decide (v ∈ ord) && decide (nst st v = s)
theorem tst_mem {n : Nat} {ord : List Nat} {st : List Int} {s : Int} {v : Nat} : v ∈ tst n ord st s ↔ v < n ∧ v ∈ ord ∧ nst st v = s := by simp [tst]
theorem tst_len (n : Nat) (ord : List Nat) (st : List Int) (s : Int) : (tst n ord st s).length ≤ n := by
 have := List.length_filter_le (fun v => decide (v ∈ ord) && decide (nst st v = s)) (List.range n)
 simpa [tst] using this
theorem tst_sorted (n : Nat) (ord : List Nat) (st : List Int) (s : Int) : (tst n ord st s).Pairwise (· < ·) := List.Pairwise.filter _ List.pairwise_lt_range
def ok1 (n : Nat) (ord : List Nat) : Prop := ord.Nodup ∧ ∀ v ∈ ord, v < n
theorem ok1.len {n : Nat} {ord : List Nat} (h : ok1 n ord) : ord.length ≤ n := nodup_le n ord h.1 h.2
theorem ok1.add {n : Nat} {ord : List Nat} (h : ok1 n ord) {v : Nat} (hv : v < n) (hn : v ∉ ord) : ok1 n (ord ++ [v]) := by
 refine ⟨List.nodup_append.2 ⟨h.1, by simp, fun a ha b hb e => by simp at hb; subst hb; subst e; exact hn ha⟩, fun u hu => ?_⟩
 rcases List.mem_append.1 hu with hu | hu
 ·exact h.2 u hu
 ·simp at hu; subst hu; exact hv
theorem tst_srt {n : Nat} {ord : List Nat} {st : List Int} {s : Int} (ho : ok1 n ord) {seen : List Nat} (hs : seen.Nodup) (hall : ∀ i, i < ord.length → i ∈ seen) (hlt : ∀ i ∈ seen, i < ord.length) :
  isl (srt (((seen.map fun i => ord.getD i 0).filter fun v => decide (nst st v = s)).map fun (v : Nat) => (v : Int))) = nsl (tst n ord st s) := by
 have e : srt (((seen.map fun i => ord.getD i 0).filter fun v => decide (nst st v = s)).map fun (v : Nat) => (v : Int)) = (tst n ord st s).map fun (v : Nat) => (v : Int) := by
  refine (srt_of ?_ ?_).symm
  ·refine List.Perm.map _ ?_
   refine (List.perm_ext_iff_of_nodup ((tst_sorted n ord st s).imp fun h => Nat.ne_of_lt h) ?_).2 fun v => ?_
   ·refine List.Pairwise.filter _ ?_
    refine List.pairwise_map.2 (List.Pairwise.imp_of_mem (fun {i j} hi hj hne h => hne ?_) hs)
    have h1 := hlt i hi
    have h2 := hlt j hj
    have h3 : ord[i] = ord[j] := by simpa [List.getD_eq_getElem?_getD, h1, h2] using h
    exact (List.getElem_inj ho.1).1 h3
   ·rw [tst_mem, List.mem_filter, List.mem_map, decide_eq_true_eq]
    constructor
    ·rintro ⟨h1, h2, h3⟩
     obtain ⟨i, hi, rfl⟩ := List.getElem_of_mem h2
     exact ⟨⟨i, hall i hi, by simp [List.getD_eq_getElem?_getD, hi]⟩, h3⟩
    ·rintro ⟨⟨i, hi, rfl⟩, h3⟩
     have h1 : ord.getD i 0 ∈ ord := getD_mem (hlt i hi)
     exact ⟨ho.2 _ h1, h1, h3⟩
  ·rw [List.pairwise_map]
   exact (tst_sorted n ord st s).imp fun h => by omega
 rw [e]
 simp [isl, nsl]
def con (R : Rl) (n : Nat) (ord : List Nat) (st : List Int) : Bool := (tst n ord st 0).any fun g => (tst n ord st 1).any fun b => R b g
def stl (R : Rl) (n : Nat) (ord : List Nat) (st : List Int) (h v : Nat) : Bool := decide (v ∈ ord) || ((tst n ord st 0).any (fun g => R v g) || (tst n ord st 1).any fun b => decide (b ≠ h) && R b v)
def opn (R : Rl) (n : Nat) (ord : List Nat) (st : List Int) (h : Nat) (sc : List Nat) : List Nat := sc.filter fun v => !stl R n ord st h v
def cnd (R : Rl) (n : Nat) (ord : List Nat) (st : List Int) : List Nat := (tst n ord st 1).filter fun v => !(tst n ord st 1).any fun b => decide (b ≠ v) && R b v
def upc (R : Rl) (l : List Nat) (v : Nat) : Nat := l.countP fun x => R x v
def dnc (R : Rl) (l : List Nat) (v : Nat) : Nat := l.countP fun x => R v x
def chs1 (R : Rl) (l : List Nat) (q : Int × Int) (v : Nat) : Int × Int := if ((min (upc R l v) (dnc R l v) : Nat) : Int) > q.2 then ((v : Int), ((min (upc R l v) (dnc R l v) : Nat) : Int)) else q
def chsK (R : Rl) (l : List Nat) (k : Nat) : Int × Int := (l.take k).foldl (chs1 R l) (-1, -1)
def chs (R : Rl) (l : List Nat) : Int := (chsK R l l.length).1
theorem chsK_succ {R : Rl} {l : List Nat} {k : Nat} (hk : k < l.length) : chsK R l (k + 1) = chs1 R l (chsK R l k) (l.getD k 0) := by
 unfold chsK
 rw [take1 0 hk, List.foldl_append]; rfl
theorem countP_take {p : Nat → Bool} {l : List Nat} {k : Nat} (hk : k < l.length) : (l.take (k + 1)).countP p = (l.take k).countP p + (if p (l.getD k 0) then 1 else 0) := by
 rw [take1 0 hk, List.countP_append]
 simp [List.countP_cons]
theorem countP_le {p : Nat → Bool} (l : List Nat) (k : Nat) : (l.take k).countP p ≤ l.length := by
 have h1 := List.countP_le_length (p := p) (l := l.take k)
 simp only [List.length_take] at h1
 omega
theorem chsK_bd {R : Rl} {l : List Nat} : ∀ k, k ≤ l.length → -1 ≤ (chsK R l k).2 ∧ (chsK R l k).2 ≤ l.length
 | 0, _ => by simp only [chsK, List.take_zero, List.foldl_nil]; omega
 | k + 1, h => by
  have ih := chsK_bd (R := R) (l := l) k (by omega)
  rw [chsK_succ (by omega)]
  unfold chs1
  have h1 : upc R l (l.getD k 0) ≤ l.length := List.countP_le_length
  split
  ·simp only; omega
  ·exact ih
end Go.Proofs.Ytkbkmngbenohkaa
