/- Part 14 of the texts that the walk leans on: the machine, the walks, the plain laws. -/
import Derived.Test.YtkbkmngbenohkaaBrZ13
set_option linter.unusedSimpArgs false
set_option linter.unusedVariables false
namespace Go.Proofs.Ytkbkmngbenohkaa
open Go.RowKit

section
variable {n : Nat} {Ps : List (List Int)}
theorem anR_iff (hPs : Ps.length = n) {a v : Nat} : anR n (ancW n (edg Ps n 0)) a v = true ↔ a ∈ upE Ps v := by
 subst hPs
 unfold anR upE
 rw [decide_eq_true_eq]
theorem upE_out (hPs : Ps.length = n) {a v : Nat} (h : a ∈ upE Ps v) : v < n := by
 subst hPs
 unfold upE wat at h
 split at h
 ·omega
 ·simp at h
theorem wat_par (hPs : Ps.length = n) (h64 : n ≤ 64) (hV : Valid Ps) {v p : Nat} : p ∈ wat n (parW Ps) (v : Int) ↔ v < n ∧ ((p : Int), (v : Int)) ∈ edg Ps n 0 := by
 subst hPs
 have hW := parW_pw hV h64
 unfold wat
 by_cases hv : v < Ps.length
 ·rw [if_pos (by omega), Int.toNat_natCast, els_mem, hW.m v hv]
  refine ⟨fun h => ⟨hv, h.2⟩, fun h => ⟨?_, h.2⟩⟩
  obtain ⟨u, hu, h1, h2⟩ := edg_mem.1 h.2
  have := (hV u hu).2 _ h2
  simp only at this
  omega
 ·rw [if_neg (by omega)]
  simp [hv]
theorem gr_of (hPs : Ps.length = n) (h64 : n ≤ 64) (hV : Valid Ps) (hlt : ∀ {a b : Nat}, Clo (edg Ps n 0) a b → a < b) : GR n (anR n (ancW n (edg Ps n 0))) (fun v => wat n (parW Ps) (v : Int)) := by
 refine ⟨fun {a v} h => ?_, fun {v} hv => ?_, fun {a b c} h1 h2 => ?_, fun {a b} h => ?_, fun {v p} h => ?_⟩
 ·rw [anR_iff hPs] at h
  have hv := upE_out hPs h
  subst hPs
  exact ⟨((upE_mem h64 hv).1 h).1, hv⟩
 ·rw [anR_iff hPs]
  subst hPs
  exact (upE_mem h64 hv).2 ⟨hv, .inl rfl⟩
 ·rw [anR_iff hPs] at h1 h2 ⊢
  have hb := upE_out hPs h1
  have hc := upE_out hPs h2
  subst hPs
  exact upE_trans h64 hb hc h1 h2
 ·rw [anR_iff hPs] at h
  have hb := upE_out hPs h
  subst hPs
  rcases ((upE_mem h64 hb).1 h).2 with rfl | h
  ·exact Nat.le_refl _
  ·exact Nat.le_of_lt (hlt h)
 ·obtain ⟨hv, he⟩ := (wat_par hPs h64 hV).1 h
  rw [anR_iff hPs]
  subst hPs
  have hc : Clo (edg Ps Ps.length 0) p v := .one he
  have := hlt hc
  exact (upE_mem h64 hv).2 ⟨by omega, .inr hc⟩
theorem nst_eq {st : List Int} (h012 : ∀ v, v < n → st.getD v 0 = 0 ∨ st.getD v 0 = 1 ∨ st.getD v 0 = 2) (hst : st.length = n) {v : Nat} (hv : v < n) : nst st v = st.getD v 0 := by
 have e : st.getD v 2 = st.getD v 0 := by
  rw [List.getD_eq_getElem?_getD, List.getD_eq_getElem?_getD, List.getElem?_eq_getElem (by omega)]; rfl
 unfold nst
 rw [e]
 rcases h012 v hv with h | h | h <;> rw [h] <;> decide
theorem sus_fil (hPs : Ps.length = n) (h64 : n ≤ 64) (hV : Valid Ps) (hlt : ∀ {a b : Nat}, Clo (edg Ps n 0) a b → a < b) {st : List Int} (h012 : ∀ v, v < n → st.getD v 0 = 0 ∨ st.getD v 0 = 1 ∨ st.getD v 0 = 2) (hst : st.length = n)
  (hI : Inh (anR n (ancW n (edg Ps n 0))) st) (v : Nat) (o : List Nat) (hv : v < n) (ho : ok1 n o) :
  fil n (vsF (anR n (ancW n (edg Ps n 0))) n (fun v => wat n (parW Ps) (v : Int)) st v (o, [])).1.2 = els (susW n (edg Ps n 0) (whr st 2).testBit v) := by
 have hG := gr_of hPs h64 hV hlt
 have hp : ∀ v, v < n → ∀ p ∈ wat n (parW Ps) (v : Int), p < n := fun v _ p hp => (hG.lt (hG.par hp)).1
 have hT : ∀ {a : Nat}, a < n → (whr st 2).testBit a = unN st a := fun {a} ha => by rw [whr2_bit (by omega), unN, nst_eq h012 hst ha]
 rw [susW, els_cw h64]
 unfold fil
 refine List.filter_congr fun u hu => ?_
 have hun := List.mem_range.1 hu
 rw [Bool.eq_iff_iff, decide_eq_true_eq, cl_iff]
 constructor
 ·intro hm
  refine (vis_sound (fun a b hab hua => fst_mem.2 ⟨((wat_par hPs h64 hV).1 hab).2, ?_⟩) _ _ _ u hm).resolve_left (by simp)
  rw [hT (hG.lt (hG.par hab)).1]; exact hua
 ·intro hc
  refine vis_all hp (fun o => hI.con o) (fun a b hab => ?_) hv ho (Nat.le_refl _) hc
  obtain ⟨h1, h2⟩ := fst_mem.1 hab
  have h3 := (whr_lt_of h2).1
  rw [hT (by omega)] at h2
  refine ⟨(wat_par hPs h64 hV).2 ⟨?_, h1⟩, h2⟩
  obtain ⟨w, hw, h4, _⟩ := edg_mem.1 h1
  simp only at h4
  omega
theorem scp_up (hPs : Ps.length = n) (h64 : n ≤ 64) {h : Nat} (hh : h < n) : scp (anR n (ancW n (edg Ps n 0))) n h = upE Ps h := by
 have e : ∀ u, anR n (ancW n (edg Ps n 0)) u h = decide (u ∈ upE Ps h) := fun u => by rw [Bool.eq_iff_iff, anR_iff hPs, decide_eq_true_eq]
 unfold scp
 subst hPs
 conv => rhs; rw [upE_eq h64 hh]
 refine List.filter_congr fun u hu => ?_
 have hun := List.mem_range.1 hu
 rw [e, Bool.eq_iff_iff, decide_eq_true_eq, upE_mem h64 hh]
 simp only [Bool.or_eq_true, decide_eq_true_eq, cl_iff]
 exact ⟨fun h => h.2, fun h => ⟨hun, h⟩⟩
theorem mnl_min (hPs : Ps.length = n) (h64 : n ≤ 64) (hV : Valid Ps) (hlt : ∀ {a b : Nat}, Clo (edg Ps n 0) a b → a < b) {st : List Int} (h012 : ∀ v, v < n → st.getD v 0 = 0 ∨ st.getD v 0 = 1 ∨ st.getD v 0 = 2) (hst : st.length = n) {v : Nat} (hv : v < n) :
  mnl (anR n (ancW n (edg Ps n 0))) n st v = ((aw1 n (edg Ps n 0) v &&& whr st 1) == 2 ^ v) := by
 have hG := gr_of hPs h64 hV hlt
 rw [Bool.eq_iff_iff, mnl_iff hG, beq_iff_eq]
 have e : ∀ u, anR n (ancW n (edg Ps n 0)) u v = true → u < n := fun u hu => (hG.lt hu).1
 have e2 : ∀ u, anR n (ancW n (edg Ps n 0)) u v = true ↔ u ∈ upE Ps v := fun u => anR_iff hPs
 have e3 := @nst_eq n st h012 hst
 subst hPs
 rw [← rmin_iff h64 hst hv, rmin, e3 hv]
 refine and_congr_right fun _ => ⟨fun h u hu hne hs => h u ((e2 u).2 hu) hne (by rw [e3 (e u ((e2 u).2 hu))]; exact hs), fun h u hu hne hs => h u ((e2 u).1 hu) hne (by rw [← e3 (e u hu)]; exact hs)⟩
/-- The search finds what versions blames. -/
theorem fnd_minL (hPs : Ps.length = n) (h64 : n ≤ 64) (hV : Valid Ps) (hlt : ∀ {a b : Nat}, Clo (edg Ps n 0) a b → a < b) {st : List Int} (h012 : ∀ v, v < n → st.getD v 0 = 0 ∨ st.getD v 0 = 1 ∨ st.getD v 0 = 2) (hst : st.length = n)
  (hI : Inh (anR n (ancW n (edg Ps n 0))) st) {h : Nat} (hh : h < n) :
  (fnd (anR n (ancW n (edg Ps n 0))) n (fun v => wat n (parW Ps) (v : Int)) st h (upE Ps h)).2 = true ∧
  (fnd (anR n (ancW n (edg Ps n 0))) n (fun v => wat n (parW Ps) (v : Int)) st h (upE Ps h)).1.2 = minL n (edg Ps n 0) st (upE Ps h) := by
 have hG := gr_of hPs h64 hV hlt
 have h1 := fnd_exact hG hI hh (sus_fil hPs h64 hV hlt h012 hst hI)
 rw [scp_up hPs h64 hh] at h1
 refine ⟨h1.1, h1.2.trans ?_⟩
 unfold minL
 congr 1
 refine List.filter_congr fun v hv => ?_
 have hvn : v < n := by
  have := (anR_iff hPs).2 hv
  exact (hG.lt this).1
 exact mnl_min hPs h64 hV hlt h012 hst hvn
end
end Go.Proofs.Ytkbkmngbenohkaa

namespace Go.Proofs.Ytkbkmngbenohkaa
open Go.RowKit

/-! ### Bounds -/
/-! ### Chains -/
def chM (n : Nat) : List (List Int) := (List.range n).map fun (v : Nat) => if v = 0 then ([] : List Int) else [(v : Int) - 1]
@[simp] theorem chM_len (n : Nat) : (chM n).length = n := by simp [chM]
theorem chM_get {n v : Nat} (h : v < n) : (chM n).getD v [] = if v = 0 then [] else [(v : Int) - 1] := by simp [chM, List.getD_eq_getElem?_getD, h]
theorem chM_succ (n : Nat) : chM (n + 1) = chM n ++ [if n = 0 then [] else [(n : Int) - 1]] := by simp [chM, List.range_succ]
theorem chain_spec (n : Nat) (hn : n ≤ 1000) : Spec Try.prog 77 (inSt [.v (.int .i64 (n : Int))] []) (outSt (.sl n (nrows (chM n))) []) := by
 refine Spec.ofN Try.func77 rfl Try.ntmps77 rfl ?_
 refine D_seq fun K1 hK1 => ?_
 refine D_region ?_
 refine DL_c (op_as _ (rfl : _ = AV.v (.slice _ _ _))) ?_
 refine DL_nil (hK1 _ ?_)
 clear hK1; try clear K1
 refine D_seq fun K2 hK2 => ?_
 refine D_region ?_
 refine DL_c (op_asN (3, 0) _ 29 1 rfl rfl) ?_
 refine DL_nil (hK2 _ ?_)
 clear hK2; try clear K2
 refine D_seq fun K3 hK3 => ?_
 refine D_seq fun K4 hK4 => ?_
 refine D_region ?_
 refine DL_c (op_as _ (rfl : _ = AV.v (.int _ _))) ?_
 refine DL_nil (hK4 _ ?_)
 clear hK4; try clear K4
 refine D_block ?_
 refine D_loopL (α := Nat) (fun v => v ≤ n) 23 [(0, _)] [] (fun v => [(4, .v (.int .i64 (v : Int))), (3, .ref (3, 0) 0 v)]) (fun v => [((3, 0), .row 29 1 (nrows (chM v)))]) [] [] (fun v => n - v) 0 ?_ (by
  refine Le.mkJ [] [] rfl ?_ ?_ trivial trivial ?_
  ·exact ⟨(iV rfl), (lvI (by rfl)), (lvRr rfl (by rfl)), trivial⟩
  ·exact ⟨(obR rfl rfl rfl (by rfl)), trivial⟩
  ·kernel_rfl) ?_
 ·omega
 intro v hv
 refine D_seq fun K5 hK5 => ?_
 refine D_seq fun K6 hK6 => ?_
 refine D_region ?_
 refine DL_c (op_mv _ (rfl : _ = AV.v (.int _ _))) ?_
 refine DL_c (op_mv _ (rfl : _ = AV.v (.int _ _))) ?_
 refine DL_c (op_lss _ _ rfl rfl rfl) ?_
 refine DL_nil (hK6 _ ?_)
 clear hK6; try clear K6
 refine D_splitC rfl (fun hc8 => ?_) (fun hc8 => ?_)
 ·skip
  refine D_skip (hK5 _ ?_)
  clear hK5; try clear K5
  refine D_seq fun K7 hK7 => ?_
  refine D_block ?_
  refine D_seq fun K8 hK8 => ?_
  refine D_region ?_
  refine DL_c (op_asN (5, 0) _ 3 1 rfl rfl) ?_
  refine DL_nil (hK8 _ ?_)
  clear hK8; try clear K8
  refine D_seq fun K9 hK9 => ?_
  refine D_seq fun K10 hK10 => ?_
  refine D_region ?_
  refine DL_c (op_mv _ (rfl : _ = AV.v (.int _ _))) ?_
  refine DL_c (op_gtr _ _ rfl rfl rfl) ?_
  refine DL_nil (hK10 _ ?_)
  clear hK10; try clear K10
  refine D_splitC rfl (fun hc12 => ?_) (fun hc12 => ?_)
  ·skip
   have hnx : nrows (chM (v + 1)) = nrows (chM v) ++ [.sl 1 (isl [(v : Int) - 1])] := by rw [chM_succ, if_neg (by omega)]; simp [nrows]
   refine D_region ?_
   refine DL_c (op_mv _ (rfl : _ = AV.ref _ _ _)) ?_
   refine DL_c (op_mv _ (rfl : _ = AV.v (.int _ _))) ?_
   refine DL_c (op_sub _ _ rfl rfl (i64w (by omega))) ?_
   refine DL_c (op_bsF _ _ inferInstance rfl (by rfl) (by simp <;> rfl) (by decide) rfl) ?_
   refine DL_c (op_ap (17, 0) _ _ inferInstance rfl rfl (by rfl) (by (refine .sl ?_; (simp [isl]; done))) (by omega) rfl (rfl) (rfl)) ?_
   refine DL_c (op_as _ (rfl : _ = AV.ref _ _ _)) ?_
   refine DL_nil (hK9 _ ?_)
   clear hK9; try clear K9
   refine D_le (Le.frzS (ys := isl [(v : Int) - 1]) 5 rfl rfl rfl (by rfl) (by simp)) ?_
   refine D_region ?_
   refine DL_c (op_mv _ (rfl : _ = AV.ref _ _ _)) ?_
   refine DL_c (op_mv _ (rfl : _ = AV.sl _ _)) ?_
   refine DL_c (op_bsF _ _ inferInstance rfl (by rfl) (by simp <;> rfl) (by decide) rfl) ?_
   refine DL_c (op_ap (21, 0) _ _ inferInstance rfl rfl (by (simp; done)) (by (refine .sl ?_; (simp [isl]; done))) (by omega) rfl (rfl) (rfl)) ?_
   refine DL_c (op_as _ (rfl : _ = AV.ref _ _ _)) ?_
   refine DL_nil (hK7 _ ?_)
   clear hK7; try clear K7
   refine D_le (σ' := mkStI 23 [(0, _), (3, _), (4, _)] [((21, 0), _)] [] []) (by
    refine Le.mkJ [] [] rfl ?_ ?_ trivial trivial ?_
    ·exact ⟨(iV rfl), (iR rfl), (iV rfl), trivial⟩
    ·exact ⟨(obE rfl rfl rfl), trivial⟩
    ·kernel_rfl) ?_
   refine D_region ?_
   refine DL_c (op_mv _ (rfl : _ = AV.v (.int _ _))) ?_
   refine DL_c (op_add _ _ rfl rfl (i64w (by omega))) ?_
   refine DL_c (op_as _ (rfl : _ = AV.v (.int _ _))) ?_
   refine DL_nil ?_
   refine ⟨v + 1, ?_, ?_, ?_⟩
   ·omega
   ·skip
    refine Le.mkJ [((3, 0), (21, 0))] [] rfl ?_ ?_ trivial trivial ?_
    ·exact ⟨(by repeat' (exact Lv.v)), (lvI (by rfl)), (lvRr rfl (by rfl)), trivial⟩
    ·exact ⟨(obR rfl rfl rfl (by rw [hnx])), trivial⟩
    ·kernel_rfl
   ·omega
  ·skip
   have hnx : nrows (chM (v + 1)) = nrows (chM v) ++ [.sl 0 (isl [])] := by rw [chM_succ, if_pos (by omega)]; simp [nrows]
   refine D_skip (hK9 _ ?_)
   clear hK9; try clear K9
   refine D_le (Le.frzS (ys := isl []) 5 rfl rfl rfl (by rfl) (by simp)) ?_
   refine D_region ?_
   refine DL_c (op_mv _ (rfl : _ = AV.ref _ _ _)) ?_
   refine DL_c (op_mv _ (rfl : _ = AV.sl _ _)) ?_
   refine DL_c (op_bsF _ _ inferInstance rfl (by rfl) (by simp <;> rfl) (by decide) rfl) ?_
   refine DL_c (op_ap (21, 0) _ _ inferInstance rfl rfl (by (simp; done)) (by (refine .sl ?_; (simp [isl]; done))) (by omega) rfl (rfl) (rfl)) ?_
   refine DL_c (op_as _ (rfl : _ = AV.ref _ _ _)) ?_
   refine DL_nil (hK7 _ ?_)
   clear hK7; try clear K7
   refine D_region ?_
   refine DL_c (op_mv _ (rfl : _ = AV.v (.int _ _))) ?_
   refine DL_c (op_add _ _ rfl rfl (i64w (by omega))) ?_
   refine DL_c (op_as _ (rfl : _ = AV.v (.int _ _))) ?_
   refine DL_nil ?_
   refine ⟨v + 1, ?_, ?_, ?_⟩
   ·omega
   ·skip
    refine Le.mkJ [((3, 0), (21, 0))] [] rfl ?_ ?_ trivial trivial ?_
    ·exact ⟨(by repeat' (exact Lv.v)), (lvI (by rfl)), (lvRr rfl (by rfl)), trivial⟩
    ·exact ⟨(obR rfl rfl rfl (by rw [hnx])), trivial⟩
    ·kernel_rfl
   ·omega
 ·skip
  refine D_exit ?_
  refine id (hK3 _ ?_)
  clear hK3; try clear K3
  refine D_seq fun K11 hK11 => ?_
  refine D_region ?_
  refine DL_c (op_mv _ (rfl : _ = AV.ref _ _ _)) ?_
  refine DL_c (op_as _ (rfl : _ = AV.ref _ _ _)) ?_
  refine DL_nil (hK11 _ ?_)
  clear hK11; try clear K11
  refine D_ret ?_
  obtain rfl : v = n := by omega
  exact ret1 (.inr rfl) rfl (.tmp (rfl : _ = AV.ref _ _ _)) (Le.out [] [(3, 0)] (frz0 rfl rfl (by simp) rfl) rfl rfl rfl ⟨rfl, trivial⟩ trivial)
theorem chM_edg {n a b : Nat} : ((a : Int), (b : Int)) ∈ edg (chM n) n 0 ↔ b < n ∧ a + 1 = b := by
 rw [edg_mem]
 constructor
 ·rintro ⟨v, hv, h1, h2⟩
  rw [chM_get hv] at h2
  simp only at h1 h2
  split at h2
  ·simp at h2
  ·simp at h2; omega
 ·rintro ⟨h1, h2⟩
  refine ⟨b, h1, rfl, ?_⟩
  rw [chM_get h1, if_neg (by omega)]
  simp; omega
theorem chM_valid (n : Nat) : Valid (chM n) := by
 intro v hv
 rw [chM_len] at hv
 rw [chM_get hv, chM_len]
 split
 ·exact ⟨List.nodup_nil, fun p hp => by simp at hp⟩
 ·exact ⟨by simp, fun p hp => by simp at hp; omega⟩
theorem chM_clo {n a b : Nat} : Clo (edg (chM n) n 0) a b ↔ a < b ∧ b < n := by
 constructor
 ·intro h
  induction h with
  | one h => have := chM_edg.1 h; omega
  | more h _ ih => have := chM_edg.1 h; omega
 ·rintro ⟨h1, h2⟩
  obtain ⟨d, rfl⟩ : ∃ d, b = a + d + 1 := ⟨b - a - 1, by omega⟩
  induction d generalizing a with
  | zero => exact .one (chM_edg.2 ⟨h2, rfl⟩)
  | succ d ih => exact .more (chM_edg.2 ⟨by omega, rfl⟩ : ((a : Int), ((a + 1 : Nat) : Int)) ∈ _) (by
    have := ih (a := a + 1) (by omega) (by omega)
    rwa [show a + 1 + d + 1 = a + (d + 1) + 1 by omega] at this)
theorem chM_lt {n a b : Nat} (h : Clo (edg (chM n) n 0) a b) : a < b := (chM_clo.1 h).1
theorem chM_acyc (n : Nat) : ¬ ∃ a, a < (chM n).length ∧ Clo (edg (chM n) (chM n).length 0) a a := fun ⟨a, _, h⟩ => by
 rw [chM_len] at h; exact Nat.lt_irrefl _ (chM_lt h)
theorem chM_R {n : Nat} (hn : n ≤ 64) (a v : Nat) : anR n (ancW n (edg (chM n) n 0)) a v = (decide (a ≤ v) && decide (v < n)) := by
 rw [Bool.eq_iff_iff, anR_iff (chM_len n), Bool.and_eq_true, decide_eq_true_eq, decide_eq_true_eq]
 constructor
 ·intro h
  have hv := upE_out (chM_len n) h
  have h2 := (upE_mem (by rw [chM_len]; exact hn) (by rw [chM_len]; exact hv)).1 h
  rw [chM_len, chM_clo] at h2
  omega
 ·rintro ⟨h1, h2⟩
  refine (upE_mem (by rw [chM_len]; exact hn) (by rw [chM_len]; exact h2)).2 ?_
  rw [chM_len, chM_clo]
  omega
theorem chM_up {n h : Nat} (hn : n ≤ 64) (hh : h < n) : upE (chM n) h = List.range (h + 1) := by
 rw [← scp_up (chM_len n) hn hh]
 unfold scp
 obtain ⟨d, rfl⟩ : ∃ d, n = (h + 1) + d := ⟨n - (h + 1), by omega⟩
 rw [List.range_add, List.filter_append, List.filter_eq_self.2, List.filter_eq_nil_iff.2, List.append_nil]
 ·intro u hu
  rw [List.mem_map] at hu
  obtain ⟨x, _, rfl⟩ := hu
  rw [chM_R hn]; simp; omega
 ·intro u hu
  have := List.mem_range.1 hu
  rw [chM_R hn]; simp; omega
theorem newC_spec (n : Nat) (hn : n ≤ 64) : Spec Try.prog 58 (inSt [.sl n (nrows (chM n))] []) (outSt (.tup [.fp 0 (gra n (parW (chM n)) (ancW n (edg (chM n) n 0))), .v (.int .i64 0)]) []) := by
 have hN := vnew_spec n (chM n) (chM_len n) (by omega) (fun v => by
  by_cases hv : v < n
  ·rw [chM_get hv]; split <;> simp
  ·rw [List.getD_eq_getElem?_getD, List.getElem?_eq_none (by rw [chM_len]; omega)]; simp) fun hV _ a _ => by
  have := nxt_edg (Ps := chM n) a n fun v hv => (hV v (by rw [chM_len]; exact hv)).1
  rw [this, List.length_map]
  exact Nat.le_trans (filter_few (a := a) (m := 1) _ fun v hp => by
   rw [decide_eq_true_eq] at hp
   by_cases hv : v < n
   ·rw [chM_get hv] at hp
    split at hp
    ·simp at hp
    ·simp at hp; omega
   ·rw [List.getD_eq_getElem?_getD, List.getElem?_eq_none (by rw [chM_len]; omega)] at hp; simp at hp) (by decide)
 rw [newV_ok (by rw [chM_len]; omega) (chM_valid n) (chM_acyc n), chM_len] at hN
 exact hN
theorem same33_spec (n m : Nat) (L M : List (Nat × List Nat)) (hL : L.length = n) (hM : M.length = m) (h1 : n ≤ 1000) (h2 : m ≤ 1000) (h3 : ∀ i, (L.getD i (0, [])).2.length ≤ 1000) (h4 : ∀ i, (M.getD i (0, [])).2.length ≤ 1000) :
  Spec Try.prog 75 (inSt [.sl n (blR L), .sl m (blR M)] []) (outSt (.v (.bool (decide (L = M)))) []) := by
 subst hL; subst hM
 refine Spec.ofN Try.func75 rfl Try.ntmps75 rfl ?_
 refine D_seq fun K1 hK1 => ?_
 refine D_region ?_
 refine DL_c (op_as _ (rfl : _ = AV.v (.bool _))) ?_
 refine DL_nil (hK1 _ ?_)
 clear hK1; try clear K1
 refine D_seq fun K2 hK2 => ?_
 refine D_seq fun K3 hK3 => ?_
 refine D_region ?_
 refine DL_c (op_mv _ (rfl : _ = AV.sl _ _)) ?_
 refine DL_c (op_lenS _ inferInstance rfl) ?_
 refine DL_c (op_mv _ (rfl : _ = AV.sl _ _)) ?_
 refine DL_c (op_lenS _ inferInstance rfl) ?_
 refine DL_c (op_neq _ _ rfl rfl rfl) ?_
 refine DL_nil (hK3 _ ?_)
 clear hK3; try clear K3
 refine D_splitC rfl (fun hc10 => ?_) (fun hc10 => ?_)
 ·skip
  refine D_seq fun K4 hK4 => ?_
  refine D_region ?_
  refine DL_c (op_as _ (rfl : _ = AV.v (.bool _))) ?_
  refine DL_nil (hK4 _ ?_)
  clear hK4; try clear K4
  refine D_ret ?_
  refine ret1 (.inr rfl) rfl (.tmp (rfl : _ = AV.v (.bool _))) (Le.out [] [] (lvB ?_) rfl rfl rfl trivial trivial)
  exact decide_eq_false fun h => by subst h; omega
 ·skip
  refine D_skip (hK2 _ ?_)
  clear hK2; try clear K2
  refine D_seq fun K5 hK5 => ?_
  refine D_seq fun K6 hK6 => ?_
  refine D_region ?_
  refine DL_c (op_as _ (rfl : _ = AV.v (.int _ _))) ?_
  refine DL_nil (hK6 _ ?_)
  clear hK6; try clear K6
  refine D_block ?_
  refine D_loopL (α := Nat) (fun k => k ≤ L.length ∧ L.length = M.length ∧ L.take k = M.take k) 42 [(0, _), (1, _)] [] (fun k => [(5, .v (.int .i64 (k : Int)))]) (fun k => []) [] [] (fun k => L.length - k) 0 ?_ (by
   refine Le.mkJ [] [] rfl ?_ ?_ trivial trivial ?_
   ·exact ⟨(iS rfl), (iS rfl), (lvI (by rfl)), trivial⟩
   ·exact trivial
   ·kernel_rfl) ?_
  ·exact ⟨by omega, by omega, rfl⟩
  intro k hk
  obtain ⟨hk, hl, ht⟩ := hk
  refine D_seq fun K7 hK7 => ?_
  refine D_seq fun K8 hK8 => ?_
  refine D_region ?_
  refine DL_c (op_mv _ (rfl : _ = AV.v (.int _ _))) ?_
  refine DL_c (op_mv _ (rfl : _ = AV.sl _ _)) ?_
  refine DL_c (op_lenS _ inferInstance rfl) ?_
  refine DL_c (op_lss _ _ rfl rfl rfl) ?_
  refine DL_nil (hK8 _ ?_)
  clear hK8; try clear K8
  refine D_splitC rfl (fun hc14 => ?_) (fun hc14 => ?_)
  ·skip
   have hkx : k < L.length := by omega
   have hky : k < M.length := by omega
   have h3k := h3 k
   have h4k := h4 k
   refine D_skip (hK7 _ ?_)
   clear hK7; try clear K7
   refine D_seq fun K9 hK9 => ?_
   refine D_block ?_
   refine D_seq fun K10 hK10 => ?_
   refine D_le (σ' := mkStI 42 [(0, _), (1, _), (5, _)] [] [] []) (by
    refine Le.mkJ [] [] rfl ?_ ?_ trivial trivial ?_
    ·exact ⟨(iS rfl), (iS rfl), (iV rfl), trivial⟩
    ·exact trivial
    ·kernel_rfl) ?_
   refine D_anyL 25 [17, 18, 19, 20, 21, 22, 23, 24, 25, 26, 27, 28, 29, 30, 31, 32, 33, 34, 35, 36, 37, 38, 39, 40, 41] [] (by kernel_rfl) (by kernel_rfl) rfl (nodupO_iff rfl) (rfl : _ = [_, _, _, _, _, _, _, _, _, _, _, _, _, _, _, _, _, _, _, _, _, _, _, _, _]) (rfl : _ = []) ?_
   refine any_c (_, []) (fun τ => op_mv _ (rfl : _ = AV.sl _ _)) ?_
   refine any_n (rfl : _ = [_]) ?_
   refine any_c (_, []) (fun τ => op_mv _ (rfl : _ = AV.v (.int _ _))) ?_
   refine any_n (rfl : _ = [_, _]) ?_
   refine any_c (_, []) (fun τ => op_ixS _ _ inferInstance rfl rfl _ rfl (by omega) (by (simp only [isl_len, bsl_len, psl_len, mrows_len, nsl_len, ws_len, List.length_map, ul_len, psl_len, isl_len, nrows_len, mmap_len, smap_len, dcl_len, blR_len]; omega)) (by rfl)) ?_
   refine any_n (rfl : _ = [_, _, _]) ?_
   refine any_c (_, []) (fun τ => op_fldF _ inferInstance rfl rfl) ?_
   refine any_n (rfl : _ = [_, _, _, _]) ?_
   refine any_c (_, []) (fun τ => op_ldF _ inferInstance rfl (by exact blR_get0 _ _ (by omega)) rfl) ?_
   refine any_n (rfl : _ = [_, _, _, _, _]) ?_
   refine any_c (_, []) (fun τ => op_mv _ (rfl : _ = AV.sl _ _)) ?_
   refine any_n (rfl : _ = [_, _, _, _, _, _]) ?_
   refine any_c (_, []) (fun τ => op_mv _ (rfl : _ = AV.v (.int _ _))) ?_
   refine any_n (rfl : _ = [_, _, _, _, _, _, _]) ?_
   refine any_c (_, []) (fun τ => op_ixS _ _ inferInstance rfl rfl _ rfl (by omega) (by (simp only [isl_len, bsl_len, psl_len, mrows_len, nsl_len, ws_len, List.length_map, ul_len, psl_len, isl_len, nrows_len, mmap_len, smap_len, dcl_len, blR_len]; omega)) (by rfl)) ?_
   refine any_n (rfl : _ = [_, _, _, _, _, _, _, _]) ?_
   refine any_c (_, []) (fun τ => op_fldF _ inferInstance rfl rfl) ?_
   refine any_n (rfl : _ = [_, _, _, _, _, _, _, _, _]) ?_
   refine any_c (_, []) (fun τ => op_ldF _ inferInstance rfl (by exact blR_get0 _ _ (by omega)) rfl) ?_
   refine any_n (rfl : _ = [_, _, _, _, _, _, _, _, _, _]) ?_
   refine any_c (_, []) (fun τ => op_neq _ _ rfl rfl rfl) ?_
   refine any_n (rfl : _ = [_, _, _, _, _, _, _, _, _, _, _]) ?_
   refine any_c (_, []) (fun τ => op_mv _ (rfl : _ = AV.v (.bool _))) ?_
   refine any_caseC (fun hg28 => ?_) (fun hg28 => ?_)
   ·skip
    refine any_n (rfl : _ = [_, _, _, _, _, _, _, _, _, _, _, _]) ?_
    refine any_cn rfl (fun τ => rfl) (by decide) ?_
    refine any_n (rfl : _ = [_, _, _, _, _, _, _, _, _, _, _, _, _]) ?_
    refine any_cn rfl (fun τ => rfl) (by decide) ?_
    refine any_n (rfl : _ = [_, _, _, _, _, _, _, _, _, _, _, _, _, _]) ?_
    refine any_cn rfl (fun τ => rfl) (by decide) ?_
    refine any_n (rfl : _ = [_, _, _, _, _, _, _, _, _, _, _, _, _, _, _]) ?_
    refine any_cn rfl (fun τ => rfl) (by decide) ?_
    refine any_n (rfl : _ = [_, _, _, _, _, _, _, _, _, _, _, _, _, _, _, _]) ?_
    refine any_cn rfl (fun τ => rfl) (by decide) ?_
    refine any_n (rfl : _ = [_, _, _, _, _, _, _, _, _, _, _, _, _, _, _, _, _]) ?_
    refine any_cn rfl (fun τ => rfl) (by decide) ?_
    refine any_n (rfl : _ = [_, _, _, _, _, _, _, _, _, _, _, _, _, _, _, _, _, _]) ?_
    refine any_cn rfl (fun τ => rfl) (by decide) ?_
    refine any_n (rfl : _ = [_, _, _, _, _, _, _, _, _, _, _, _, _, _, _, _, _, _, _]) ?_
    refine any_cn rfl (fun τ => rfl) (by decide) ?_
    refine any_n (rfl : _ = [_, _, _, _, _, _, _, _, _, _, _, _, _, _, _, _, _, _, _, _]) ?_
    refine any_cn rfl (fun τ => rfl) (by decide) ?_
    refine any_n (rfl : _ = [_, _, _, _, _, _, _, _, _, _, _, _, _, _, _, _, _, _, _, _, _]) ?_
    refine any_cn rfl (fun τ => rfl) (by decide) ?_
    refine any_n (rfl : _ = [_, _, _, _, _, _, _, _, _, _, _, _, _, _, _, _, _, _, _, _, _, _]) ?_
    refine any_cn rfl (fun τ => rfl) (by decide) ?_
    refine any_n (rfl : _ = [_, _, _, _, _, _, _, _, _, _, _, _, _, _, _, _, _, _, _, _, _, _, _]) ?_
    refine any_cn rfl (fun τ => rfl) (by decide) ?_
    refine any_n (rfl : _ = [_, _, _, _, _, _, _, _, _, _, _, _, _, _, _, _, _, _, _, _, _, _, _, _]) ?_
    refine any_c (_, []) (fun τ => op_pick _ _ _ rfl (rfl : _ = AV.v (.bool _))) ?_
    refine any_n (rfl : _ = [_, _, _, _, _, _, _, _, _, _, _, _, _, _, _, _, _, _, _, _, _, _, _, _, _]) ?_
    refine any_end ⟨rfl, ?_⟩
    refine DL_nil (hK10 _ ?_)
    clear hK10; try clear K10
    refine D_cT rfl rfl ?_
    refine D_seq fun K11 hK11 => ?_
    refine D_le (σ' := mkStI 42 [] [] [] []) (by
     refine Le.mkJ [] [] rfl ?_ ?_ trivial trivial ?_
     ·exact trivial
     ·exact trivial
     ·kernel_rfl) ?_
    refine D_region ?_
    refine DL_c (op_as _ (rfl : _ = AV.v (.bool _))) ?_
    refine DL_nil (hK11 _ ?_)
    clear hK11; try clear K11
    refine D_ret ?_
    refine ret1 (.inr rfl) rfl (.tmp (rfl : _ = AV.v (.bool _))) (Le.out [] [] (lvB ?_) rfl rfl rfl trivial trivial)
    exact decide_eq_false fun h => by subst h; exact hg28 rfl
   ·skip
    refine any_n (rfl : _ = [_, _, _, _, _, _, _, _, _, _, _, _]) ?_
    refine any_cy (_, []) rfl (fun τ => rfl) (fun τ => op_mv _ (rfl : _ = AV.sl _ _)) ?_
    refine any_n (rfl : _ = [_, _, _, _, _, _, _, _, _, _, _, _, _]) ?_
    refine any_cy (_, []) rfl (fun τ => rfl) (fun τ => op_mv _ (rfl : _ = AV.v (.int _ _))) ?_
    refine any_n (rfl : _ = [_, _, _, _, _, _, _, _, _, _, _, _, _, _]) ?_
    refine any_cy (_, []) rfl (fun τ => rfl) (fun τ => op_ixS _ _ inferInstance rfl rfl _ rfl (by omega) (by (simp only [isl_len, bsl_len, psl_len, mrows_len, nsl_len, ws_len, List.length_map, ul_len, psl_len, isl_len, nrows_len, mmap_len, smap_len, dcl_len, blR_len]; omega)) (by rfl)) ?_
    refine any_n (rfl : _ = [_, _, _, _, _, _, _, _, _, _, _, _, _, _, _]) ?_
    refine any_cy (_, []) rfl (fun τ => rfl) (fun τ => op_fldF _ inferInstance rfl rfl) ?_
    refine any_n (rfl : _ = [_, _, _, _, _, _, _, _, _, _, _, _, _, _, _, _]) ?_
    refine any_cy (_, []) rfl (fun τ => rfl) (fun τ => op_ldF _ inferInstance rfl (by exact blR_get1 _ _ (by omega)) rfl) ?_
    refine any_n (rfl : _ = [_, _, _, _, _, _, _, _, _, _, _, _, _, _, _, _, _]) ?_
    refine any_cy (_, []) rfl (fun τ => rfl) (fun τ => op_mv _ (rfl : _ = AV.sl _ _)) ?_
    refine any_n (rfl : _ = [_, _, _, _, _, _, _, _, _, _, _, _, _, _, _, _, _, _]) ?_
    refine any_cy (_, []) rfl (fun τ => rfl) (fun τ => op_mv _ (rfl : _ = AV.v (.int _ _))) ?_
    refine any_n (rfl : _ = [_, _, _, _, _, _, _, _, _, _, _, _, _, _, _, _, _, _, _]) ?_
    refine any_cy (_, []) rfl (fun τ => rfl) (fun τ => op_ixS _ _ inferInstance rfl rfl _ rfl (by omega) (by (simp only [isl_len, bsl_len, psl_len, mrows_len, nsl_len, ws_len, List.length_map, ul_len, psl_len, isl_len, nrows_len, mmap_len, smap_len, dcl_len, blR_len]; omega)) (by rfl)) ?_
    refine any_n (rfl : _ = [_, _, _, _, _, _, _, _, _, _, _, _, _, _, _, _, _, _, _, _]) ?_
    refine any_cy (_, []) rfl (fun τ => rfl) (fun τ => op_fldF _ inferInstance rfl rfl) ?_
    refine any_n (rfl : _ = [_, _, _, _, _, _, _, _, _, _, _, _, _, _, _, _, _, _, _, _, _]) ?_
    refine any_cy (_, []) rfl (fun τ => rfl) (fun τ => op_ldF _ inferInstance rfl (by exact blR_get1 _ _ (by omega)) rfl) ?_
    refine any_n (rfl : _ = [_, _, _, _, _, _, _, _, _, _, _, _, _, _, _, _, _, _, _, _, _, _]) ?_
    refine any_cy (_, []) rfl (fun τ => rfl) (fun τ => (op_callH inferInstance (by repeat' (first | exact argsLv_nil | refine argsLv_cons ?_ ?_ | exact Lv.sl)) (same_spec _ _ ((L.getD k (0, [])).2.map fun (x : Nat) => (x : Int)) ((M.getD k (0, [])).2.map fun (x : Nat) => (x : Int)) (by simp) (by simp) (by omega) (by omega)) rfl rfl)) ?_
    refine any_n (rfl : _ = [_, _, _, _, _, _, _, _, _, _, _, _, _, _, _, _, _, _, _, _, _, _, _]) ?_
    refine any_cy (_, []) rfl (fun τ => rfl) (fun τ => op_not _ rfl rfl) ?_
    refine any_n (rfl : _ = [_, _, _, _, _, _, _, _, _, _, _, _, _, _, _, _, _, _, _, _, _, _, _, _]) ?_
    refine any_c (_, []) (fun τ => op_pick _ _ _ rfl (rfl : _ = AV.v (.bool _))) ?_
    refine any_n (rfl : _ = [_, _, _, _, _, _, _, _, _, _, _, _, _, _, _, _, _, _, _, _, _, _, _, _, _]) ?_
    refine any_end ⟨rfl, ?_⟩
    refine DL_nil (hK10 _ ?_)
    clear hK10; try clear K10
    refine D_splitC rfl (fun hc41 => ?_) (fun hc41 => ?_)
    ·skip
     refine D_seq fun K12 hK12 => ?_
     refine D_le (σ' := mkStI 42 [] [] [] []) (by
      refine Le.mkJ [] [] rfl ?_ ?_ trivial trivial ?_
      ·exact trivial
      ·exact trivial
      ·kernel_rfl) ?_
     refine D_region ?_
     refine DL_c (op_as _ (rfl : _ = AV.v (.bool _))) ?_
     refine DL_nil (hK12 _ ?_)
     clear hK12; try clear K12
     refine D_ret ?_
     refine ret1 (.inr rfl) rfl (.tmp (rfl : _ = AV.v (.bool _))) (Le.out [] [] (lvB ?_) rfl rfl rfl trivial trivial)
     exact decide_eq_false fun h => by subst h; exact hc41 rfl
    ·skip
     have hek : L.getD k (0, []) = M.getD k (0, []) := Prod.ext (by omega) (cast_inj.1 hc41)
     refine D_skip (hK9 _ ?_)
     clear hK9; try clear K9
     refine D_le (σ' := mkStI 42 [(0, _), (1, _), (5, _)] [] [] []) (by
      refine Le.mkJ [] [] rfl ?_ ?_ trivial trivial ?_
      ·exact ⟨(iS rfl), (iS rfl), (iV rfl), trivial⟩
      ·exact trivial
      ·kernel_rfl) ?_
     refine D_region ?_
     refine DL_c (op_mv _ (rfl : _ = AV.v (.int _ _))) ?_
     refine DL_c (op_add _ _ rfl rfl (i64w (by omega))) ?_
     refine DL_c (op_as _ (rfl : _ = AV.v (.int _ _))) ?_
     refine DL_nil ?_
     refine ⟨k + 1, ?_, ?_, ?_⟩
     ·exact ⟨by omega, hl, by rw [take1 (0, []) hkx, take1 (0, []) hky, ht, hek]⟩
     ·skip
      refine Le.mkJ [] [] rfl ?_ ?_ trivial trivial ?_
      ·exact ⟨(iS rfl), (iS rfl), (lvI (by rfl)), trivial⟩
      ·exact trivial
      ·kernel_rfl
     ·omega
  ·skip
   refine D_exit ?_
   refine id (hK5 _ ?_)
   clear hK5; try clear K5
   refine D_seq fun K13 hK13 => ?_
   refine D_region ?_
   refine DL_c (op_as _ (rfl : _ = AV.v (.bool _))) ?_
   refine DL_nil (hK13 _ ?_)
   clear hK13; try clear K13
   refine D_ret ?_
   refine ret1 (.inr rfl) rfl (.tmp (rfl : _ = AV.v (.bool _))) (Le.out [] [] (lvB ?_) rfl rfl rfl trivial trivial)
   rw [List.take_of_length_le (by omega), List.take_of_length_le (by omega)] at ht; exact decide_eq_true ht
/-! ### The documented example -/
theorem fnd4 : fnd (fun a v => decide (a ≤ v) && decide (v < 4)) 4 (fun v => wat 4 (parW (chM 4)) (v : Int)) [0, 0, 1, 1] 3 [0, 1, 2, 3] = (([3, 1, 2], [(2, [])]), true) := by decide
end Go.Proofs.Ytkbkmngbenohkaa

namespace Go.Proofs.Ytkbkmngbenohkaa
open Go.RowKit

/-- What is known of a graph, as the search takes it. -/
theorem findG_spec {n : Nat} {Ps : List (List Int)} (hPs : Ps.length = n) (h64 : n ≤ 64) (hV : Valid Ps) (hlt : ∀ {a b : Nat}, Clo (edg Ps n 0) a b → a < b) (st : List Int) (h1 : st.length ≤ 4611686018427387904) (h : Nat) (hh : h < n) (hs : nst st h = 1) :
  Spec Try.prog 72 (inStI [.fp 0 (gra n (parW Ps) (ancW n (edg Ps n 0))), .v (.int .i64 (h : Int)), .fn (.func 73) [.ptr (3, 9) 0] []] [((3, 9), .box 93 [.sl st.length (isl st), .v (.slice none 0 0)])])
   (fOut st (fnd (anR n (ancW n (edg Ps n 0))) n (fun v => wat n (parW Ps) (v : Int)) st h (upE Ps h))) := by
 have hG := gr_of hPs h64 hV hlt
 subst hPs
 have hu : wat Ps.length (ancW Ps.length (edg Ps Ps.length 0)) (h : Int) = upE Ps h := rfl
 have := find_spec Ps.length (parW Ps) (ancW Ps.length (edg Ps Ps.length 0)) (parW_len Ps) (ancW_len _ _) h64 (parW_lt hV h64) (ancW_lt h64 _) (fun v p hp => (hG.lt (hG.par hp)).1) st h1 h hh hs
  (by rw [hu]; exact (upE_mem h64 hh).2 ⟨hh, .inl rfl⟩) (fun v hv => by rw [hu] at hv; exact ((upE_mem h64 hh).1 hv).1)
 rw [hu] at this
 exact this
theorem findGv_spec {n : Nat} {Ps : List (List Int)} (hPs : Ps.length = n) (h64 : n ≤ 64) (hV : Valid Ps) (hlt : ∀ {a b : Nat}, Clo (edg Ps n 0) a b → a < b) (st : List Int) (h1 : st.length ≤ 4611686018427387904) (h : Nat) (hh : h < n) (hs : nst st h ≠ 1) :
  Spec Try.prog 72 (inStI [.fp 0 (gra n (parW Ps) (ancW n (edg Ps n 0))), .v (.int .i64 (h : Int)), .fn (.func 73) [.ptr (3, 9) 0] []] [((3, 9), .box 93 [.sl st.length (isl st), .v (.slice none 0 0)])])
   (outStI (.tup [.v (.slice none 0 0), .v (.slice none 0 0), .v (.int .i64 41)]) [((3, 9), .box 93 [.sl st.length (isl st), .ref (4, 8) 0 [h].length]), ((4, 8), .row 3 1 (nsl [h]))] [(3, 9)] [(3, 9)]) := by
 have hG := gr_of hPs h64 hV hlt
 subst hPs
 exact find_ver Ps.length (parW Ps) (ancW Ps.length (edg Ps Ps.length 0)) (parW_len Ps) (ancW_len _ _) h64 (parW_lt hV h64) (ancW_lt h64 _) (fun v p hp => (hG.lt (hG.par hp)).1) st h1 h hh hs
theorem bl_one (x : Nat × List Nat) (h : x.2.length ≤ 1000) (i : Nat) : ([x].getD i (0, [])).2.length ≤ 1000 := by
 cases i with
 | zero => exact h
 | succ i => simp
theorem lives33_spec : Spec Try.prog 76 (inSt [] []) (outSt (.v (.bool true)) []) := by
 have hC := chain_spec 4 (by decide)
 have hN := newC_spec 4 (by decide)
 have hF := findG_spec (chM_len 4) (by decide) (chM_valid 4) chM_lt [0, 0, 1, 1] (by decide) 3 (by decide) (by decide)
 have hRf : anR 4 (ancW 4 (edg (chM 4) 4 0)) = fun a v => decide (a ≤ v) && decide (v < 4) := funext fun a => funext fun v => chM_R (by decide) a v
 rw [hRf, chM_up (by decide) (by decide), show List.range (3 + 1) = [0, 1, 2, 3] from rfl, fnd4] at hF
 have hF : Spec Try.prog 72 (inStI [.fp 0 (gra 4 (parW (chM 4)) (ancW 4 (edg (chM 4) 4 0))), .v (.int .i64 3), .fn (.func 73) [.ptr (3, 9) 0] []] [((3, 9), .box 93 [.sl 4 (isl [0, 0, 1, 1]), .v (.slice none 0 0)])])
   (outStI (.tup [.ref (0, 8) 0 1, .ref (2, 8) 0 3, .v (.int .i64 0)]) [((3, 9), .box 93 [.sl 4 (isl [0, 0, 1, 1]), .ref (4, 8) 0 3]), ((4, 8), .row 3 1 (nsl [3, 1, 2])), ((0, 8), .row 75 2 (blR [(2, [])])), ((2, 8), .row 3 1 (nsl [3, 1, 2]))] [(3, 9)] [(3, 9)]) := hF
 have hS := same33_spec 1 1 [(2, [])] [(2, [])] rfl rfl (by decide) (by decide) (bl_one _ (by decide)) (bl_one _ (by decide))
 have hO := same_spec 3 3 [3, 1, 2] [3, 1, 2] rfl rfl (by decide) (by decide)
 generalize ancW 4 (edg (chM 4) 4 0) = A at *
 generalize parW (chM 4) = P at *
 refine Spec.ofN Try.func76 rfl Try.ntmps76 rfl ?_
 refine D_seq fun K1 hK1 => ?_
 refine D_region ?_
 refine DL_c (op_as _ (rfl : _ = AV.v (.bool _))) ?_
 refine DL_nil (hK1 _ ?_)
 clear hK1; try clear K1
 refine D_seq fun K2 hK2 => ?_
 refine D_region ?_
 refine DL_c (op_callH inferInstance (by repeat' (first | exact argsLv_nil | refine argsLv_cons ?_ ?_ | exact Lv.v)) (hC) rfl rfl) ?_
 refine DL_c (op_callH inferInstance (by repeat' (first | exact argsLv_nil | refine argsLv_cons ?_ ?_ | exact Lv.sl)) (hN) rfl rfl) ?_
 refine DL_c (op_mv _ (rfl : _ = AV.tup _)) ?_
 refine DL_c (op_ext _ rfl (rfl : _ = some (AV.fp _ _))) ?_
 refine DL_c (op_ext _ rfl (rfl : _ = some (AV.v (.int _ _)))) ?_
 refine DL_c (op_as _ (rfl : _ = AV.fp _ _)) ?_
 refine DL_c (op_as _ (rfl : _ = AV.v (.int _ _))) ?_
 refine DL_nil (hK2 _ ?_)
 clear hK2; try clear K2
 refine D_seq fun K3 hK3 => ?_
 refine D_seq fun K4 hK4 => ?_
 refine D_region ?_
 refine DL_c (op_mv _ (rfl : _ = AV.fp _ _)) ?_
 refine DL_c (op_eqN _ _ (by kernel_rfl) (.inr ⟨_, _, rfl⟩) rfl) ?_
 refine DL_c (op_mv _ (rfl : _ = AV.v (.bool _))) ?_
 refine DL_cy rfl rfl (op_mv _ (rfl : _ = AV.v (.int _ _))) ?_
 refine DL_cy rfl rfl (op_neq (r := false) _ _ rfl rfl rfl) ?_
 refine DL_c (op_pick (b := false) _ _ _ rfl rfl) ?_
 refine DL_nil (hK4 _ ?_)
 clear hK4; try clear K4
 refine D_cF rfl rfl ?_
 refine D_skip (hK3 _ ?_)
 clear hK3; try clear K3
 refine D_seq fun K5 hK5 => ?_
 refine D_region ?_
 refine DL_c (op_bsF _ _ inferInstance rfl (by rfl) (by simp <;> rfl) (by decide) rfl) ?_
 refine DL_c (op_build _ inferInstance rfl (by exact (rfl : _ = some [_, _]))) ?_
 refine DL_c (op_box (20, 0) _ rfl rfl) ?_
 refine DL_c (op_as _ (rfl : _ = AV.ptr _ _)) ?_
 refine DL_nil (hK5 _ ?_)
 clear hK5; try clear K5
 refine D_seq fun K6 hK6 => ?_
 refine D_le (σ' := mkStI 47 [(1, _), (3, _)] [((20, 0), _)] [] []) (by
  refine Le.mkJ [] [] rfl ?_ ?_ trivial trivial ?_
  ·exact ⟨(iF rfl), (iP rfl), trivial⟩
  ·exact ⟨(obE rfl rfl rfl), trivial⟩
  ·kernel_rfl) ?_
 refine D_region ?_
 refine DL_c (op_mv _ (rfl : _ = AV.fp _ _)) ?_
 refine DL_c (op_mv _ (rfl : _ = AV.ptr _ _)) ?_
 refine DL_c (op_mf _ _ (rfl : _ = [_]) (rfl : _ = [])) ?_
 refine DL_c (op_callP inferInstance [((3, 9), (20, 0)), ((4, 8), (60, 0)), ((0, 8), (61, 0)), ((2, 8), (62, 0))] ?_ (hF) ⟨⟨rfl, ⟨_, rfl, .box rfl (lv_cons .sl (lv_cons .v lv_nil))⟩, rfl⟩, trivial⟩ ⟨rfl, rfl, rfl, rfl, trivial⟩ (by kernel_rfl)) ?_
 ·repeat' (first | exact argsR_nil | refine argsR_cons ?_ ?_ | exact Lv.v | exact Lv.fp | exact lvPr rfl | refine Lv.fn rfl ?_ rfl ?_ | exact lv_nil | refine lv_cons ?_ ?_)
 refine DL_c (op_mv _ (rfl : _ = AV.tup _)) ?_
 refine DL_c (op_ext _ rfl (rfl : _ = some (AV.ref _ _ _))) ?_
 refine DL_c (op_ext _ rfl (rfl : _ = some (AV.ref _ _ _))) ?_
 refine DL_c (op_ext _ rfl (rfl : _ = some (AV.v (.int _ _)))) ?_
 refine DL_c (op_as _ (rfl : _ = AV.ref _ _ _)) ?_
 refine DL_c (op_as _ (rfl : _ = AV.ref _ _ _)) ?_
 refine DL_c (op_as _ (rfl : _ = AV.v (.int _ _))) ?_
 refine DL_nil (hK6 _ ?_)
 clear hK6; try clear K6
 refine D_seq fun K7 hK7 => ?_
 refine D_region ?_
 refine DL_c (op_mv _ (rfl : _ = AV.v (.int _ _))) ?_
 refine DL_c (op_eql (r := true) _ _ rfl rfl rfl) ?_
 refine DL_c (op_mv _ (rfl : _ = AV.v (.bool _))) ?_
 refine DL_cy rfl rfl (op_mv _ (rfl : _ = AV.ref _ _ _)) ?_
 refine DL_cy rfl rfl (op_lenR _ inferInstance rfl rfl) ?_
 refine DL_cy rfl rfl (op_eql (r := true) _ _ rfl rfl rfl) ?_
 refine DL_c (op_pick _ _ _ rfl (rfl : _ = AV.v (.bool _))) ?_
 refine DL_c (op_mv _ (rfl : _ = AV.v (.bool _))) ?_
 refine DL_cy rfl rfl (op_mv _ (rfl : _ = AV.ref _ _ _)) ?_
 refine DL_cy rfl rfl (op_build _ inferInstance rfl (by exact (rfl : _ = some [_, _]))) ?_
 refine DL_cy rfl rfl (op_bsB (39, 0) 1 _ inferInstance (r := [[.v (.int .i64 2), .v (.slice none 0 0)]]) rfl rfl (by simp) (by decide) (by decide) rfl rfl) ?_
 refine DL_le (Le.trans (Le.frzRt (ys := blR [(2, [])]) 39 rfl rfl rfl (by rfl)) (Le.nil0 (39, 0) 1 rfl rfl)) ?_
 refine DL_cy rfl rfl (op_callBH inferInstance (by repeat' (first | exact argsLv_nil | refine argsLv_cons ?_ ?_ | exact Lv.sl | (refine frz0 rfl rfl ?_ rfl; (simp; done)))) (hS) rfl) ?_
 refine DL_c (op_pick _ _ _ rfl (rfl : _ = AV.v (.bool _))) ?_
 refine DL_c (op_mv _ (rfl : _ = AV.v (.bool _))) ?_
 refine DL_cy rfl rfl (op_mv _ (rfl : _ = AV.ref _ _ _)) ?_
 refine DL_cy rfl rfl (op_bsF _ _ inferInstance rfl (by rfl) (by simp <;> rfl) (by decide) rfl) ?_
 refine DL_cy rfl rfl (op_callBH inferInstance (by repeat' (first | exact argsLv_nil | refine argsLv_cons ?_ ?_ | exact Lv.sl | (refine frz0 rfl rfl ?_ rfl; (simp; done)))) (hO) rfl) ?_
 refine DL_c (op_pick _ _ _ rfl (rfl : _ = AV.v (.bool _))) ?_
 refine DL_c (op_as _ (rfl : _ = AV.v (.bool _))) ?_
 refine DL_nil (hK7 _ ?_)
 clear hK7; try clear K7
 refine D_ret ?_
 refine ret1 (.inr rfl) rfl (.tmp (rfl : _ = AV.v (.bool _))) (Le.out [] [] (lvB ?_) rfl rfl rfl trivial trivial)
 rfl
end Go.Proofs.Ytkbkmngbenohkaa

namespace Go.Proofs.Ytkbkmngbenohkaa
open Go.RowKit

theorem find_argN (n : Nat) (P A : List Nat) (hP : P.length = n) (st : List Int) (h : Int) (hh : h < 0 ∨ (n : Int) ≤ h) :
  Spec Try.prog 72 (inStI [.fp 0 (gra n P A), .v (.int .i64 h), .fn (.func 73) [.ptr (3, 9) 0] []] [((3, 9), .box 93 [.sl st.length (isl st), .v (.slice none 0 0)])])
   (outStI (.tup [.sl 0 [], .sl 0 [], .v (.int .i64 1)]) [((3, 9), .box 93 [.sl st.length (isl st), .ref (4, 8) 0 0]), ((4, 8), .row 3 1 [])] [(3, 9)] [(3, 9)]) := by
 have hl := vlen_spec n P A
 refine Spec.ofNI Try.func72 rfl Try.ntmps72 rfl ?_
 refine D_seq fun K1 hK1 => ?_
 refine D_region ?_
 refine DL_c (op_as _ (rfl : _ = AV.v (.slice _ _ _))) ?_
 refine DL_c (op_as _ (rfl : _ = AV.v (.slice _ _ _))) ?_
 refine DL_c (op_as _ (rfl : _ = AV.v (.int _ _))) ?_
 refine DL_nil (hK1 _ ?_)
 clear hK1; try clear K1
 refine D_seq fun K2 hK2 => ?_
 refine D_seq fun K3 hK3 => ?_
 refine D_le (Le.nilB (3, 9) 1 (4, 9) 3 1 rfl rfl rfl) ?_
 refine D_region ?_
 refine DL_c (op_mv _ (rfl : _ = AV.v (.int _ _))) ?_
 refine DL_c (op_lss _ _ rfl rfl rfl) ?_
 refine DL_c (op_mv _ (rfl : _ = AV.v (.bool _))) ?_
 refine DL_caseC (fun hg18 => ?_) (fun hg18 => ?_)
 ·skip
  refine DL_cn rfl rfl (by decide) ?_
  refine DL_cn rfl rfl (by decide) ?_
  refine DL_cn rfl rfl (by decide) ?_
  refine DL_cn rfl rfl (by decide) ?_
  refine DL_c (op_pick _ _ _ rfl (rfl : _ = AV.v (.bool _))) ?_
  refine DL_nil (hK3 _ ?_)
  clear hK3; try clear K3
  refine D_cT rfl rfl ?_
  refine D_seq fun K4 hK4 => ?_
  refine D_region ?_
  refine DL_c (op_as _ (rfl : _ = AV.v (.slice _ _ _))) ?_
  refine DL_c (op_as _ (rfl : _ = AV.v (.slice _ _ _))) ?_
  refine DL_c (op_as _ (rfl : _ = AV.v (.int _ _))) ?_
  refine DL_nil (hK4 _ ?_)
  clear hK4; try clear K4
  refine D_ret ?_
  exact ret3 (.inr rfl) rfl (.tmp (rfl : _ = AV.v _)) (.tmp (rfl : _ = AV.v _)) (.tmp (rfl : _ = AV.v _)) (Le.outI [((4, 8), (4, 9))] [] (.tup rfl (lv_cons .nil (lv_cons .nil (lv_cons .v lv_nil)))) rfl rfl rfl trivial ⟨⟨rfl, ⟨_, rfl, .box rfl (lv_cons .sl (lv_cons (lvRr rfl rfl) lv_nil))⟩, rfl⟩, ⟨rfl, ⟨_, rfl, .rowE rfl⟩, rfl⟩, trivial⟩ ⟨rfl, trivial⟩ rfl)
 ·skip
  skip
  refine DL_cy rfl rfl (op_mv _ (rfl : _ = AV.v (.int _ _))) ?_
  refine DL_cy rfl rfl (op_mv _ (rfl : _ = AV.fp _ _)) ?_
  refine DL_cy rfl rfl (op_callH inferInstance (by repeat' (first | exact argsLv_nil | refine argsLv_cons ?_ ?_ | exact Lv.fp)) (hl) rfl rfl) ?_
  refine DL_cy rfl rfl (op_geq _ _ rfl rfl rfl) ?_
  refine DL_c (op_pick _ _ _ rfl (rfl : _ = AV.v (.bool _))) ?_
  refine DL_nil (hK3 _ ?_)
  clear hK3; try clear K3
  refine D_splitC rfl (fun hc23 => ?_) (fun hc23 => ?_)
  ·skip
   refine D_seq fun K5 hK5 => ?_
   refine D_region ?_
   refine DL_c (op_as _ (rfl : _ = AV.v (.slice _ _ _))) ?_
   refine DL_c (op_as _ (rfl : _ = AV.v (.slice _ _ _))) ?_
   refine DL_c (op_as _ (rfl : _ = AV.v (.int _ _))) ?_
   refine DL_nil (hK5 _ ?_)
   clear hK5; try clear K5
   refine D_ret ?_
   exact ret3 (.inr rfl) rfl (.tmp (rfl : _ = AV.v _)) (.tmp (rfl : _ = AV.v _)) (.tmp (rfl : _ = AV.v _)) (Le.outI [((4, 8), (4, 9))] [] (.tup rfl (lv_cons .nil (lv_cons .nil (lv_cons .v lv_nil)))) rfl rfl rfl trivial ⟨⟨rfl, ⟨_, rfl, .box rfl (lv_cons .sl (lv_cons (lvRr rfl rfl) lv_nil))⟩, rfl⟩, ⟨rfl, ⟨_, rfl, .rowE rfl⟩, rfl⟩, trivial⟩ ⟨rfl, trivial⟩ rfl)
  ·skip
   exact absurd  hc23 (by omega)
/-- What Find comes to: the tests in order, the blames, the order that is told, the error. -/
noncomputable def findR (n : Nat) (Ps : List (List Int)) (st : List Int) (head : Int) : List Nat × List (Nat × List Nat) × List Nat × Int :=
 if head < 0 ∨ (n : Int) ≤ head then ([], [], [], 1)
 else if nst st head.toNat ≠ 1 then ([head.toNat], [], [], 41)
 else if (fnd (anR n (ancW n (edg Ps n 0))) n (fun v => wat n (parW Ps) (v : Int)) st head.toNat (upE Ps head.toNat)).2 = true
  then ((fnd (anR n (ancW n (edg Ps n 0))) n (fun v => wat n (parW Ps) (v : Int)) st head.toNat (upE Ps head.toNat)).1.1, (fnd (anR n (ancW n (edg Ps n 0))) n (fun v => wat n (parW Ps) (v : Int)) st head.toNat (upE Ps head.toNat)).1.2, (fnd (anR n (ancW n (edg Ps n 0))) n (fun v => wat n (parW Ps) (v : Int)) st head.toNat (upE Ps head.toNat)).1.1, 0)
  else ((fnd (anR n (ancW n (edg Ps n 0))) n (fun v => wat n (parW Ps) (v : Int)) st head.toNat (upE Ps head.toNat)).1.1, [], [], 42)
/-- Find, the box of whose tester bears the name (3, 9): the answers are data. -/
abbrev findS (n : Nat) (Ps : List (List Int)) (st : List Int) (head : Int) (r : List Nat × List (Nat × List Nat) × List Nat × Int) : Prop :=
 Spec Try.prog 72 (inStI [.fp 0 (gra n (parW Ps) (ancW n (edg Ps n 0))), .v (.int .i64 head), .fn (.func 73) [.ptr (3, 9) 0] []] [((3, 9), .box 93 [.sl st.length (isl st), .v (.slice none 0 0)])])
  (outStI (.tup [.sl r.2.1.length (blR r.2.1), .sl r.2.2.1.length (nsl r.2.2.1), .v (.int .i64 r.2.2.2)]) [((3, 9), .box 93 [.sl st.length (isl st), .ref (4, 8) 0 r.1.length]), ((4, 8), .row 3 1 (nsl r.1))] [(3, 9)] [(3, 9)])
theorem findR_spec {n : Nat} {Ps : List (List Int)} (hPs : Ps.length = n) (h64 : n ≤ 64) (hV : Valid Ps) (hlt : ∀ {a b : Nat}, Clo (edg Ps n 0) a b → a < b) (st : List Int) (h1 : st.length ≤ 4611686018427387904) (head : Int) :
  findS n Ps st head (findR n Ps st head) := by
 unfold findS findR
 by_cases hr : head < 0 ∨ (n : Int) ≤ head
 ·rw [if_pos hr]
  exact find_argN n (parW Ps) (ancW n (edg Ps n 0)) (by rw [parW_len, hPs]) st head hr
 ·rw [if_neg hr]
  obtain ⟨h, rfl⟩ := Int.eq_ofNat_of_zero_le (show 0 ≤ head by omega)
  have hh : h < n := by omega
  rw [Int.toNat_natCast]
  by_cases hs : nst st h = 1
  ·rw [if_neg (fun hn => hn hs)]
   have hF := findG_spec hPs h64 hV hlt st h1 h hh hs
   generalize fnd (anR n (ancW n (edg Ps n 0))) n (fun v => wat n (parW Ps) (v : Int)) st h (upE Ps h) = r at hF ⊢
   obtain ⟨⟨ord, bl⟩, b⟩ := r
   cases b with
   | true =>
    rw [if_pos rfl]
    refine hF.mono (Le.outII [] [(0, 8), (2, 8)] (.tup rfl (lv_cons (frz0 rfl rfl (by simp) rfl) (lv_cons (frz0 rfl rfl (by simp) rfl) (lv_cons .v lv_nil)))) rfl rfl rfl ⟨rfl, rfl, trivial⟩ ⟨⟨rfl, ⟨_, rfl, .box rfl (lv_cons .sl (lv_cons (lvRr rfl rfl) lv_nil))⟩, rfl⟩, ⟨rfl, ⟨_, rfl, .rowE rfl⟩, rfl⟩, trivial⟩ ⟨rfl, trivial⟩ rfl)
   | false =>
    rw [if_neg (by simp)]
    refine hF.mono (Le.outII [] [] (.tup rfl (lv_cons .nil (lv_cons .nil (lv_cons .v lv_nil)))) rfl rfl rfl trivial ⟨⟨rfl, ⟨_, rfl, .box rfl (lv_cons .sl (lv_cons (lvRr rfl rfl) lv_nil))⟩, rfl⟩, ⟨rfl, ⟨_, rfl, .rowE rfl⟩, rfl⟩, trivial⟩ ⟨rfl, trivial⟩ rfl)
  ·rw [if_pos hs]
   have hF := findGv_spec hPs h64 hV hlt st h1 h hh hs
   refine hF.mono (Le.outII [] [] (.tup rfl (lv_cons .nil (lv_cons .nil (lv_cons .v lv_nil)))) rfl rfl rfl trivial ⟨⟨rfl, ⟨_, rfl, .box rfl (lv_cons .sl (lv_cons (lvRr rfl rfl) lv_nil))⟩, rfl⟩, ⟨rfl, ⟨_, rfl, .rowE rfl⟩, rfl⟩, trivial⟩ ⟨rfl, trivial⟩ rfl)
end Go.Proofs.Ytkbkmngbenohkaa

namespace Go.Proofs.Ytkbkmngbenohkaa
open Go.RowKit

section
variable {st su : List Int} (hns : ∀ v, nst st v = nst su v) {R : Rl} {n : Nat} {par : Nat → List Nat} {h : Nat} {sc : List Nat}
include hns
end
/-- The statuses with an odd one in place of untestable. -/
def odds (st : List Int) (odd : Int) (k : Nat) : List Int := (List.range k).map fun i => if st.getD i 0 = 2 ∧ odd ≠ 0 ∧ odd ≠ 1 then odd else st.getD i 0
@[simp] theorem odds_len (st : List Int) (odd : Int) (k : Nat) : (odds st odd k).length = k := by simp [odds]
theorem status_012 (Ps : List (List Int)) (s : List Int) (b : Bool) : ∀ v, v < Ps.length → (status32 Ps s b).getD v 0 = 0 ∨ (status32 Ps s b).getD v 0 = 1 ∨ (status32 Ps s b).getD v 0 = 2 := by
 have h0 : ∀ v, (st0 Ps.length s).getD v 0 = 0 ∨ (st0 Ps.length s).getD v 0 = 1 ∨ (st0 Ps.length s).getD v 0 = 2 := by
  intro v
  by_cases hv : v < Ps.length
  ·have := stv_bd s v
   have e : (st0 Ps.length s).getD v 0 = stv s v := by simp [st0, List.getD_eq_getElem?_getD, hv]
   rw [e]; omega
  ·rw [List.getD_eq_getElem?_getD, List.getElem?_eq_none (by rw [st0_len]; omega)]; exact .inl rfl
 have hset : ∀ (o : List Int) (v : Nat), (∀ i, o.getD i 0 = 0 ∨ o.getD i 0 = 1 ∨ o.getD i 0 = 2) → ∀ i, (o.set v 1).getD i 0 = 0 ∨ (o.set v 1).getD i 0 = 1 ∨ (o.set v 1).getD i 0 = 2 := by
  intro o v ho i
  rw [getD_set]
  split
  ·exact .inr (.inl rfl)
  ·exact ho i
 have hinh : ∀ (a : List Nat) (o : List Int) (v : Nat), (∀ i, o.getD i 0 = 0 ∨ o.getD i 0 = 1 ∨ o.getD i 0 = 2) → ∀ i, (inh1 o v a).getD i 0 = 0 ∨ (inh1 o v a).getD i 0 = 1 ∨ (inh1 o v a).getD i 0 = 2 := by
  intro a
  induction a with
  | nil => exact fun o v h => h
  | cons u a ih =>
   intro o v ho
   have e : inh1 o v (u :: a) = inh1 (if o.getD u 0 = 1 ∧ o.getD v 0 = 0 then o.set v 1 else o) v a := rfl
   rw [e]
   apply ih
   split
   ·exact hset o v ho
   ·exact ho
 have hK : ∀ k i, (stK Ps s b k).getD i 0 = 0 ∨ (stK Ps s b k).getD i 0 = 1 ∨ (stK Ps s b k).getD i 0 = 2 := by
  intro k
  induction k with
  | zero => rw [stK_zero]; exact h0
  | succ k ih =>
   cases b with
   | false => rw [stK_false Ps s (k + 1) 0, stK_zero]; exact h0
   | true => rw [stK_succ]; exact hinh _ _ _ ih
 exact fun v _ => hK Ps.length v
end Go.Proofs.Ytkbkmngbenohkaa

namespace Go.Proofs.Ytkbkmngbenohkaa
open Go.RowKit

theorem inh_R {n : Nat} {Ps : List (List Int)} (hPs : Ps.length = n) (h64 : n ≤ 64) (hV : Valid Ps) (hlt : ∀ {a b : Nat}, Clo (edg Ps n 0) a b → a < b) {st : List Int} (h012 : ∀ v, v < n → st.getD v 0 = 0 ∨ st.getD v 0 = 1 ∨ st.getD v 0 = 2) (hst : st.length = n)
  (hr : rinh Ps st n) : Inh (anR n (ancW n (edg Ps n 0))) st := by
 have hG := gr_of hPs h64 hV hlt
 intro b g hb h1 h0
 obtain ⟨hbn, hgn⟩ := hG.lt hb
 rw [nst_eq h012 hst hbn] at h1
 rw [nst_eq h012 hst hgn] at h0
 exact hr g hgn h0 b ((anR_iff hPs).1 hb) h1
/-- For a bad head and inherited statuses Find's blames are those of Minimal. -/
theorem exact_R {n : Nat} {Ps : List (List Int)} (hPs : Ps.length = n) (h64 : n ≤ 64) (hV : Valid Ps) (hlt : ∀ {a b : Nat}, Clo (edg Ps n 0) a b → a < b) {st : List Int} (h012 : ∀ v, v < n → st.getD v 0 = 0 ∨ st.getD v 0 = 1 ∨ st.getD v 0 = 2) (hst : st.length = n)
  (hr : rinh Ps st n) {h : Nat} (hh : h < n) (hs : st.getD h 0 = 1) : ∃ ord : List Nat, findR n Ps st (h : Int) = (ord, minL n (edg Ps n 0) st (upE Ps h), ord, 0) ∧ minL n (edg Ps n 0) st (upE Ps h) ≠ [] := by
 obtain ⟨f1, f2⟩ := fnd_minL hPs h64 hV hlt h012 hst (inh_R hPs h64 hV hlt h012 hst hr) hh
 refine ⟨(fnd (anR n (ancW n (edg Ps n 0))) n (fun v => wat n (parW Ps) (v : Int)) st h (upE Ps h)).1.1, ?_, ?_⟩
 ·unfold findR
  rw [if_neg (by omega), Int.toNat_natCast, if_neg (fun hn => hn (by rw [nst_eq h012 hst hh]; exact hs)), if_pos f1, f2]
 ·subst hPs
  obtain ⟨w, _, hw⟩ := blame_ex h64 hlt hst hh ((upE_mem h64 hh).2 ⟨hh, .inl rfl⟩) hs
  intro he
  rw [he] at hw
  simp at hw
end Go.Proofs.Ytkbkmngbenohkaa

namespace Go.Proofs.Ytkbkmngbenohkaa
open Go.RowKit

def rnS (l : List Int) (n : Nat) : Nat → List Nat × List Nat
 | 0 => ([], List.range n)
 | i + 1 => ((rnS l n i).1 ++ [(rnS l n i).2.getD (pk l i (rnS l n i).2.length).toNat 0], (rnS l n i).2.eraseIdx (pk l i (rnS l n i).2.length).toNat)
theorem erase_perm {l : List Nat} {k : Nat} (h : k < l.length) : l.Perm (l.getD k 0 :: l.eraseIdx k) := by
 rw [List.eraseIdx_eq_take_drop_succ]
 have e : l = l.take k ++ l.getD k 0 :: l.drop (k + 1) := by
  rw [List.getD_eq_getElem?_getD, List.getElem?_eq_getElem h, Option.getD_some, List.getElem_cons_drop, List.take_append_drop]
 conv => lhs; rw [e]
 exact List.perm_middle
theorem rnS_inv (l : List Int) (n : Nat) : ∀ i, i ≤ n → (rnS l n i).1.length = i ∧ (rnS l n i).2.length = n - i ∧ ((rnS l n i).1 ++ (rnS l n i).2).Perm (List.range n)
 | 0, _ => by simp [rnS]
 | i + 1, hi => by
  obtain ⟨h1, h2, h3⟩ := rnS_inv l n i (by omega)
  have hk := pk_bd l i (rnS l n i).2.length (by omega)
  have hkl : (pk l i (rnS l n i).2.length).toNat < (rnS l n i).2.length := by omega
  refine ⟨by simp [rnS, h1], ?_, ?_⟩
  ·rw [rnS, List.length_eraseIdx, if_pos hkl]; omega
  ·rw [rnS]
   simp only [List.append_assoc, List.cons_append, List.nil_append]
   exact ((erase_perm hkl).symm.append_left _).trans h3
/-- All numbers below n, in some order. -/
structure Pm (n : Nat) (to : List Nat) : Prop where
 len : to.length = n
 nd : to.Nodup
 lt : ∀ x ∈ to, x < n
def toP (l : List Int) (n : Nat) : List Nat := (rnS l n n).1
theorem toP_pm (l : List Int) (n : Nat) : Pm n (toP l n) := by
 obtain ⟨h1, h2, h3⟩ := rnS_inv l n n (Nat.le_refl n)
 have h4 : (rnS l n n).2 = [] := List.eq_nil_of_length_eq_zero (by omega)
 rw [h4, List.append_nil] at h3
 exact ⟨h1, h3.nodup_iff.2 List.nodup_range, fun x hx => List.mem_range.1 (h3.mem_iff.1 hx)⟩
theorem Pm.at_lt {n : Nat} {to : List Nat} (h : Pm n to) {v : Nat} (hv : v < n) : to.getD v 0 < n := h.lt _ (getD_mem (by rw [h.len]; exact hv))
theorem Pm.idx {n : Nat} {to : List Nat} (h : Pm n to) {v : Nat} (hv : v < n) : to.idxOf (to.getD v 0) = v := by
 have hvl : v < to.length := by rw [h.len]; exact hv
 rw [List.getD_eq_getElem?_getD, List.getElem?_eq_getElem hvl, Option.getD_some]
 exact h.nd.idxOf_getElem v hvl
theorem Pm.inj {n : Nat} {to : List Nat} (h : Pm n to) {a b : Nat} (ha : a < n) (hb : b < n) (he : to.getD a 0 = to.getD b 0) : a = b := by rw [← h.idx ha, he, h.idx hb]
theorem Pm.mem {n : Nat} {to : List Nat} (h : Pm n to) {x : Nat} (hx : x < n) : x ∈ to := full_mem h.nd h.lt (by rw [h.len]; exact Nat.lt_irrefl _) hx
theorem Pm.back {n : Nat} {to : List Nat} (h : Pm n to) {x : Nat} (hx : x < n) : to.idxOf x < n ∧ to.getD (to.idxOf x) 0 = x := by
 have h1 := List.idxOf_lt_length_of_mem (h.mem hx)
 refine ⟨by rw [← h.len]; exact h1, ?_⟩
 rw [List.getD_eq_getElem?_getD, List.getElem?_eq_getElem h1, Option.getD_some]
 exact List.getElem_idxOf h1
def tof (to : List Nat) (p : Int) : Int := ((to.getD p.toNat 0 : Nat) : Int)
/-- The rows after the versions ahead of v, and j parents of v. -/
def rnR (n : Nat) (Ps : List (List Int)) (to : List Nat) (v j : Nat) : List (List Int) := (List.range n).map fun u => if to.idxOf u < v then (Ps.getD (to.idxOf u) []).map (tof to) else if to.idxOf u = v then ((Ps.getD v []).take j).map (tof to) else []
@[simp] theorem rnR_len (n : Nat) (Ps : List (List Int)) (to : List Nat) (v j : Nat) : (rnR n Ps to v j).length = n := by simp [rnR]
theorem rnR_zero (n : Nat) (Ps : List (List Int)) (to : List Nat) : rnR n Ps to 0 0 = List.replicate n [] := by
 apply List.ext_getElem
 ·simp
 ·intro i h1 h2
  simp only [rnR, List.getElem_map, List.getElem_range, List.getElem_replicate]
  rw [if_neg (by omega)]
  split <;> rfl
theorem rnR_next (n : Nat) (Ps : List (List Int)) (to : List Nat) (v : Nat) : rnR n Ps to v (Ps.getD v []).length = rnR n Ps to (v + 1) 0 := by
 unfold rnR
 refine List.map_congr_left fun u _ => ?_
 rw [List.take_length, List.take_zero]
 generalize to.idxOf u = w
 by_cases h1 : w < v
 ·rw [if_pos h1, if_pos (by omega)]
 ·rw [if_neg h1]
  by_cases h2 : w = v
  ·subst h2; rw [if_pos rfl, if_pos (by omega)]
  ·rw [if_neg h2, if_neg (by omega)]
   split <;> rfl
theorem rnR_get {n : Nat} {Ps : List (List Int)} {to : List Nat} (h : Pm n to) {v j : Nat} (hv : v < n) : (rnR n Ps to v j).getD (to.getD v 0) [] = ((Ps.getD v []).take j).map (tof to) := by
 unfold rnR
 rw [List.getD_eq_getElem?_getD, List.getElem?_map, List.getElem?_range (h.at_lt hv), Option.map_some, Option.getD_some, h.idx hv, if_neg (Nat.lt_irrefl _), if_pos rfl]
theorem rnR_succ {n : Nat} {Ps : List (List Int)} {to : List Nat} (h : Pm n to) {v j : Nat} (hv : v < n) (hj : j < (Ps.getD v []).length) : rnR n Ps to v (j + 1) = (rnR n Ps to v j).set (to.getD v 0) ((rnR n Ps to v j).getD (to.getD v 0) [] ++ [tof to ((Ps.getD v []).getD j 0)]) := by
 rw [rnR_get h hv]
 apply List.ext_getElem
 ·simp
 ·intro i h1 h2
  have hi : i < n := by simpa using h1
  rw [List.getElem_set]
  simp only [rnR, List.getElem_map, List.getElem_range]
  by_cases h3 : to.getD v 0 = i
  ·subst h3
   rw [h.idx hv, if_neg (Nat.lt_irrefl _), if_pos rfl, if_pos rfl, take1 0 hj, List.map_append]; rfl
  ·rw [if_neg h3]
   by_cases h4 : to.idxOf i < v
   ·rw [if_pos h4, if_pos h4]
   ·rw [if_neg h4, if_neg h4]
    have h5 : to.idxOf i ≠ v := fun e => h3 (by rw [← e]; exact (h.back hi).2)
    rw [if_neg h5, if_neg h5]
def ren32 (Ps : List (List Int)) (to : List Nat) : List (List Int) := rnR Ps.length Ps to Ps.length 0
@[simp] theorem ren32_len (Ps : List (List Int)) (to : List Nat) : (ren32 Ps to).length = Ps.length := by simp [ren32]
theorem ren32_get {Ps : List (List Int)} {to : List Nat} (h : Pm Ps.length to) {v : Nat} (hv : v < Ps.length) : (ren32 Ps to).getD (to.getD v 0) [] = (Ps.getD v []).map (tof to) := by
 unfold ren32 rnR
 rw [List.getD_eq_getElem?_getD, List.getElem?_map, List.getElem?_range (h.at_lt hv), Option.map_some, Option.getD_some, h.idx hv, if_pos hv]
theorem ren32_at {Ps : List (List Int)} {to : List Nat} (h : Pm Ps.length to) {u : Nat} (hu : u < Ps.length) : (ren32 Ps to).getD u [] = (Ps.getD (to.idxOf u) []).map (tof to) := by
 have := ren32_get h (h.back hu).1
 rw [(h.back hu).2] at this
 exact this
theorem tof_mem {n : Nat} {to : List Nat} (h : Pm n to) {l : List Int} (hl : OkP n l) {p : Nat} (hp : p < n) : ((to.getD p 0 : Nat) : Int) ∈ l.map (tof to) ↔ (p : Int) ∈ l := by
 rw [List.mem_map]
 constructor
 ·rintro ⟨q, hq, he⟩
  have hb := hl.2 q hq
  have h1 : to.getD q.toNat 0 = to.getD p 0 := by unfold tof at he; omega
  have h2 := h.inj (by omega) hp h1
  have : q = (p : Int) := by omega
  exact this ▸ hq
 ·exact fun hm => ⟨_, hm, by simp [tof]⟩
theorem ren32_ok {Ps : List (List Int)} {to : List Nat} (h : Pm Ps.length to) (hV : Valid Ps) : Valid (ren32 Ps to) := fun u hu => by
 rw [ren32_len] at hu ⊢
 rw [ren32_at h hu]
 obtain ⟨hi, _⟩ := h.back hu
 have hl := hV _ hi
 refine ⟨?_, fun p hp => ?_⟩
 ·rw [List.nodup_iff_pairwise_ne, List.pairwise_map]
  refine List.Pairwise.imp_of_mem ?_ (List.nodup_iff_pairwise_ne.1 hl.1)
  intro x y hx hy hne he
  have h1 := hl.2 x hx
  have h2 := hl.2 y hy
  have h3 := h.inj (a := x.toNat) (b := y.toNat) (by omega) (by omega) (by unfold tof at he; omega)
  omega
 ·obtain ⟨q, hq, rfl⟩ := List.mem_map.1 hp
  have h1 := hl.2 q hq
  have h2 := h.at_lt (v := q.toNat) (by omega)
  unfold tof; omega
theorem ren32_edge {Ps : List (List Int)} {to : List Nat} (h : Pm Ps.length to) (hV : Valid Ps) {a b : Nat} (ha : a < Ps.length) (hb : b < Ps.length) : (((to.getD a 0 : Nat) : Int), ((to.getD b 0 : Nat) : Int)) ∈ edg (ren32 Ps to) Ps.length 0 ↔ ((a : Int), (b : Int)) ∈ edg Ps Ps.length 0 := by
 rw [edg_par (h.at_lt hb), edg_par hb, ren32_get h hb, tof_mem h (hV b hb) ha]
/-- What leads to what stays, under the new numbers. -/
theorem ren32_clo {Ps : List (List Int)} {to : List Nat} (h : Pm Ps.length to) (hV : Valid Ps) (T T' : Nat → Bool) (hT : ∀ a, a < Ps.length → T' (to.getD a 0) = T a) {a b : Nat} (ha : a < Ps.length) (hb : b < Ps.length) :
  Clo (fst T' (edg (ren32 Ps to) Ps.length 0)) (to.getD a 0) (to.getD b 0) ↔ Clo (fst T (edg Ps Ps.length 0)) a b := by
 have hE' : inE Ps.length (edg (ren32 Ps to) Ps.length 0) = true := by have := edg_in (ren32_ok h hV); rw [ren32_len] at this; exact this
 have he : ∀ {a b : Nat}, a < Ps.length → b < Ps.length → ((((to.getD a 0 : Nat) : Int), ((to.getD b 0 : Nat) : Int)) ∈ fst T' (edg (ren32 Ps to) Ps.length 0) ↔ ((a : Int), (b : Int)) ∈ fst T (edg Ps Ps.length 0)) := by
  intro a b ha hb
  rw [fst_mem, fst_mem, ren32_edge h hV ha hb, hT a ha]
 constructor
 ·intro hc
  generalize hx : to.getD a 0 = x at hc
  generalize hy : to.getD b 0 = y at hc
  induction hc generalizing a with
  | one hm => subst hx; subst hy; exact .one ((he ha hb).1 hm)
  | @more p q r hm hc ih =>
   subst hx
   have hq := (Clo.lt hE' (fst_clo (.one hm))).2
   obtain ⟨hi, hb2⟩ := h.back hq
   rw [← hb2] at hm
   exact .more ((he ha hi).1 hm) (ih hi hb2 hy)
 ·intro hc
  have hE : inE Ps.length (edg Ps Ps.length 0) = true := edg_in hV
  induction hc with
  | one hm => exact .one ((he ha hb).2 hm)
  | more hm hc ih =>
   have hq := (Clo.lt hE (fst_clo hc)).1
   exact .more ((he ha hq).2 hm) (ih hq hb)
theorem fst_all {E : Prs} {a b : Nat} : Clo (fst (fun _ => true) E) a b ↔ Clo E a b := by
 have e : fst (fun _ => true) E = E := by unfold fst; exact List.filter_eq_self.2 fun _ _ => rfl
 rw [e]
theorem ren32_cl {Ps : List (List Int)} {to : List Nat} (h : Pm Ps.length to) (hV : Valid Ps) {a b : Nat} (ha : a < Ps.length) (hb : b < Ps.length) :
  Clo (edg (ren32 Ps to) Ps.length 0) (to.getD a 0) (to.getD b 0) ↔ Clo (edg Ps Ps.length 0) a b := by
 have := ren32_clo h hV (fun _ => true) (fun _ => true) (fun _ _ => rfl) ha hb
 rw [fst_all, fst_all] at this
 exact this
theorem ren32_gg {Ps : List (List Int)} {to : List Nat} (h : Pm Ps.length to) (hN : Near Ps) : GG Ps.length (ren32 Ps to) := by
 have hV := ren32_ok h hN.valid
 refine ⟨ren32_len _ _, by have := hN.n; omega, hV, fun v => ?_, ?_⟩
 ·by_cases hv : v < Ps.length
  ·rw [ren32_at h hv, List.length_map]
   have := hN.rows (to.idxOf v); omega
  ·rw [List.getD_eq_getElem?_getD, List.getElem?_eq_none (by rw [ren32_len]; omega)]; exact Nat.zero_le _
 ·rintro ⟨u, hu, hc⟩
  obtain ⟨hi, hb⟩ := h.back hu
  rw [← hb] at hc
  exact hN.acyc ⟨_, hi, (ren32_cl h hN.valid hi hi).1 hc⟩
/-- Few successors, under the new numbers as well. -/
theorem ren32_nxt {Ps : List (List Int)} {to : List Nat} (h : Pm Ps.length to) (hN : Near Ps) {a : Nat} (ha : a < Ps.length) : (nxt (edg (ren32 Ps to) Ps.length 0) a).length ≤ 4 := by
 have hV := ren32_ok h hN.valid
 rw [nxt_edg a Ps.length fun v hv => (hV v (by rw [ren32_len]; exact hv)).1, List.length_map]
 have h1 : ((List.range Ps.length).filter fun v => decide ((a : Int) ∈ (ren32 Ps to).getD v [])).Nodup := List.Pairwise.filter _ List.nodup_range
 obtain ⟨hi, hb⟩ := h.back ha
 have hmem : ∀ v ∈ (List.range Ps.length).filter (fun v => decide ((a : Int) ∈ (ren32 Ps to).getD v [])), v < Ps.length ∧ to.idxOf a < to.idxOf v ∧ to.idxOf v ≤ to.idxOf a + 4 := by
  intro v hv
  obtain ⟨hv1, hv2⟩ := List.mem_filter.1 hv
  have hvn := List.mem_range.1 hv1
  rw [decide_eq_true_eq, ren32_at h hvn] at hv2
  obtain ⟨hj, _⟩ := h.back hvn
  have h3 := (tof_mem h (hN.valid _ hj) hi).1 (by rw [hb]; exact hv2)
  have := (hN.r _ hj).1.b _ h3
  exact ⟨hvn, by omega, by omega⟩
 have h2 := nodup_le 4 (((List.range Ps.length).filter fun v => decide ((a : Int) ∈ (ren32 Ps to).getD v [])).map fun v => to.idxOf v - to.idxOf a - 1) (by
  rw [List.nodup_iff_pairwise_ne, List.pairwise_map]
  refine List.Pairwise.imp_of_mem ?_ (List.nodup_iff_pairwise_ne.1 h1)
  intro x y hx hy hne he
  have h3 := hmem x hx
  have h4 := hmem y hy
  have h5 : to.idxOf x = to.idxOf y := by omega
  exact hne (by rw [← (h.back h3.1).2, h5, (h.back h4.1).2])) (by
  intro x hx
  obtain ⟨y, hy, rfl⟩ := List.mem_map.1 hx
  have := hmem y hy
  omega)
 simpa using h2
end Go.Proofs.Ytkbkmngbenohkaa

namespace Go.Proofs.Ytkbkmngbenohkaa
open Go.RowKit

theorem nsl_take (l : List Nat) (k : Nat) : (nsl l).take k = nsl (l.take k) := by simp [nsl, isl]
theorem nsl_drop (l : List Nat) (k : Nat) : (nsl l).drop k = nsl (l.drop k) := by simp [nsl, isl]
theorem rn_set {n : Nat} {Ps : List (List Int)} {to : List Nat} (h : Pm n to) {v j : Nat} (hv : v < n) (hj : j < (Ps.getD v []).length) : (rnR n Ps to v (j + 1)).map isl = ((rnR n Ps to v j).map isl).set (to.getD v 0) (isl ((rnR n Ps to v j).getD (to.getD v 0) []) ++ [.v (.int .i64 (tof to ((Ps.getD v []).getD j 0)))]) := by
 rw [rnR_succ h hv hj, List.map_set]
 congr 1
 simp [isl]
theorem rn_zero (n : Nat) (Ps : List (List Int)) (to : List Nat) : (rnR n Ps to 0 0).map isl = List.replicate n [] := by rw [rnR_zero]; simp [isl]
theorem renamed_spec (n : Nat) (Ps : List (List Int)) (hPs : Ps.length = n) (hn : n ≤ 64) (hV : Valid Ps) (hm : ∀ v, (Ps.getD v []).length ≤ 64) (m : Nat) (l : List Int) (hl : l.length = m) (h1 : m ≤ 4611686018427387904) (hr : Rng l) :
  Spec Try.prog 69 (inSt [.sl n (nrows Ps), .sl m (isl l)] []) (outSt (.tup [.sl n (nrows (ren32 Ps (toP l n))), .sl n (nsl (toP l n))]) []) := by
 have hnr : (nrows Ps).length = n := by simp [hPs]
 refine Spec.ofN Try.func69 rfl Try.ntmps69 rfl ?_
 refine D_seq fun K1 hK1 => ?_
 refine D_region ?_
 refine DL_c (op_as _ (rfl : _ = AV.v (.slice _ _ _))) ?_
 refine DL_c (op_as _ (rfl : _ = AV.v (.slice _ _ _))) ?_
 refine DL_nil (hK1 _ ?_)
 clear hK1; try clear K1
 refine D_seq fun K2 hK2 => ?_
 refine D_region ?_
 refine DL_c (op_asN (6, 0) _ 3 1 rfl rfl) ?_
 refine DL_nil (hK2 _ ?_)
 clear hK2; try clear K2
 refine D_seq fun K3 hK3 => ?_
 refine D_region ?_
 refine DL_c (op_bs (15, 0) _ _ inferInstance rfl (by rfl) (by simp <;> rfl) (by decide) rfl rfl) ?_
 refine DL_c (op_as _ (rfl : _ = AV.ref _ _ _)) ?_
 refine DL_nil (hK3 _ ?_)
 clear hK3; try clear K3
 refine D_seq fun K4 hK4 => ?_
 refine D_seq fun K5 hK5 => ?_
 refine D_region ?_
 refine DL_c (op_as _ (rfl : _ = AV.v (.int _ _))) ?_
 refine DL_nil (hK5 _ ?_)
 clear hK5; try clear K5
 refine D_block ?_
 refine D_loopL (α := Nat) (fun v => v ≤ n) 99 [(0, _), (1, _), (6, _)] [((6, 0), _)] (fun v => [(8, .v (.int .i64 (v : Int))), (7, .ref (15, 0) 0 v)]) (fun v => [((15, 0), .row 3 1 (nsl (List.range v)))]) [] [] (fun v => n - v) 0 ?_ (by
  refine Le.mkJ [] [] rfl ?_ ?_ trivial trivial ?_
  ·exact ⟨(iS rfl), (iS rfl), (iR rfl), (lvI (by rfl)), (lvRr rfl (by rfl)), trivial⟩
  ·exact ⟨(obE rfl rfl rfl), (obR rfl rfl rfl (by rfl)), trivial⟩
  ·kernel_rfl) ?_
 ·omega
 intro v hv
 refine D_seq fun K6 hK6 => ?_
 refine D_seq fun K7 hK7 => ?_
 refine D_region ?_
 refine DL_c (op_mv _ (rfl : _ = AV.v (.int _ _))) ?_
 refine DL_c (op_mv _ (rfl : _ = AV.sl _ _)) ?_
 refine DL_c (op_lenS _ inferInstance rfl) ?_
 refine DL_c (op_lss _ _ rfl rfl rfl) ?_
 refine DL_nil (hK7 _ ?_)
 clear hK7; try clear K7
 refine D_splitC rfl (fun hc19 => ?_) (fun hc19 => ?_)
 ·skip
  refine D_skip (hK6 _ ?_)
  clear hK6; try clear K6
  refine D_seq fun K8 hK8 => ?_
  refine D_block ?_
  refine D_region ?_
  refine DL_c (op_mv _ (rfl : _ = AV.ref _ _ _)) ?_
  refine DL_c (op_mv _ (rfl : _ = AV.v (.int _ _))) ?_
  refine DL_c (op_bsF _ _ inferInstance rfl (by rfl) (by simp <;> rfl) (by decide) rfl) ?_
  refine DL_c (op_ap (25, 0) _ _ inferInstance rfl rfl (by (simp; done)) (by (refine .sl ?_; (simp [isl]; done))) (by omega) rfl (rfl) (rfl)) ?_
  refine DL_c (op_as _ (rfl : _ = AV.ref _ _ _)) ?_
  refine DL_nil (hK8 _ ?_)
  clear hK8; try clear K8
  refine D_region ?_
  refine DL_c (op_mv _ (rfl : _ = AV.v (.int _ _))) ?_
  refine DL_c (op_add _ _ rfl rfl (i64w (by omega))) ?_
  refine DL_c (op_as _ (rfl : _ = AV.v (.int _ _))) ?_
  refine DL_nil ?_
  refine ⟨v + 1, ?_, ?_, ?_⟩
  ·omega
  ·skip
   refine Le.mkJ [((15, 0), (25, 0))] [] rfl ?_ ?_ trivial trivial ?_
   ·exact ⟨(by repeat' (exact Lv.sl)), (by repeat' (exact Lv.sl)), (lvRr (id := (6, 0)) rfl rfl), (lvI (by rfl)), (lvRr rfl (by rfl)), trivial⟩
   ·exact ⟨(obR rfl rfl rfl rfl), (obR rfl rfl rfl (by rw [List.range_succ, ← nsl_append]; rfl)), trivial⟩
   ·kernel_rfl
  ·omega
 ·skip
  obtain rfl : v = n := by omega
  refine D_exit ?_
  refine id (hK4 _ ?_)
  clear hK4; try clear K4
  refine D_seq fun K9 hK9 => ?_
  refine D_seq fun K10 hK10 => ?_
  refine D_region ?_
  refine DL_c (op_as _ (rfl : _ = AV.v (.int _ _))) ?_
  refine DL_nil (hK10 _ ?_)
  clear hK10; try clear K10
  refine D_block ?_
  refine D_loopL (α := Nat) (fun i => i ≤ v) 99 [(0, _), (1, _)] [] (fun i => [(9, .v (.int .i64 (i : Int))), (6, .ref (6, 0) 0 i), (7, .ref (15, 0) 0 (v - i))]) (fun i => [((6, 0), .row 3 1 (nsl (rnS l v i).1)), ((15, 0), .row 3 1 (nsl (rnS l v i).2))]) [] [] (fun i => v - i) 0 ?_ (by
   refine Le.mkJ [] [] rfl ?_ ?_ trivial trivial ?_
   ·exact ⟨(iS rfl), (iS rfl), (lvI (by rfl)), (lvRr rfl (by rfl)), (lvRr rfl (by rfl)), trivial⟩
   ·exact ⟨(obR rfl rfl rfl (by rfl)), (obR rfl rfl rfl (by rfl)), trivial⟩
   ·kernel_rfl) ?_
  ·omega
  intro i hi
  obtain ⟨hr1, hr2, hr3⟩ := rnS_inv l v i (by omega)
  refine D_seq fun K11 hK11 => ?_
  refine D_seq fun K12 hK12 => ?_
  refine D_region ?_
  refine DL_c (op_mv _ (rfl : _ = AV.ref _ _ _)) ?_
  refine DL_c (op_lenR _ inferInstance rfl rfl) ?_
  refine DL_c (op_gtr _ _ rfl rfl rfl) ?_
  refine DL_nil (hK12 _ ?_)
  clear hK12; try clear K12
  refine D_splitC rfl (fun hc28 => ?_) (fun hc28 => ?_)
  ·skip
   have hpk := pk_bd l i ((v - i : Nat) : Int) (by omega)
   obtain ⟨k, hk⟩ := Int.eq_ofNat_of_zero_le hpk.1
   have hkv : k < v - i := by omega
   have hs1 : (rnS l v (i + 1)).1 = (rnS l v i).1 ++ [(rnS l v i).2.getD k 0] := by rw [rnS, hr2, hk, Int.toNat_natCast]
   have hs2 : (rnS l v (i + 1)).2 = (rnS l v i).2.take k ++ (rnS l v i).2.drop (k + 1) := by rw [rnS, hr2, hk, Int.toNat_natCast, List.eraseIdx_eq_take_drop_succ]
   refine D_skip (hK11 _ ?_)
   clear hK11; try clear K11
   refine D_seq fun K13 hK13 => ?_
   refine D_block ?_
   refine D_seq fun K14 hK14 => ?_
   refine D_region ?_
   refine DL_c (op_mv _ (rfl : _ = AV.sl _ _)) ?_
   refine DL_c (op_mv _ (rfl : _ = AV.v (.int _ _))) ?_
   refine DL_c (op_mv _ (rfl : _ = AV.ref _ _ _)) ?_
   refine DL_c (op_lenR _ inferInstance rfl rfl) ?_
   refine DL_c (op_callH inferInstance (by repeat' (first | exact argsLv_nil | refine argsLv_cons ?_ ?_ | exact Lv.v | exact Lv.sl)) (hk ▸ pick_spec m l hl h1 hr i ((v - i : Nat) : Int) (by omega) (by omega)) rfl rfl) ?_
   refine DL_c (op_as _ (rfl : _ = AV.v (.int _ _))) ?_
   refine DL_nil (hK14 _ ?_)
   clear hK14; try clear K14
   refine D_seq fun K15 hK15 => ?_
   refine D_region ?_
   refine DL_c (op_mv _ (rfl : _ = AV.ref _ _ _)) ?_
   refine DL_c (op_mv _ (rfl : _ = AV.ref _ _ _)) ?_
   refine DL_c (op_mv _ (rfl : _ = AV.v (.int _ _))) ?_
   refine DL_c (op_ixR _ _ inferInstance rfl rfl rfl k rfl (by omega) (by exact (Nat.zero_add _).trans (Nat.mul_one _))) ?_
   refine DL_c (op_ldR _ inferInstance rfl rfl (by exact nsl_get _ _ (by omega)) rfl) ?_
   refine DL_c (op_bsF _ _ inferInstance rfl (by rfl) (by simp <;> rfl) (by decide) rfl) ?_
   refine DL_c (op_ap (42, 0) _ _ inferInstance rfl rfl (by (simp only [isl_len, bsl_len, psl_len, mrows_len, nsl_len, ws_len, List.length_map, ul_len, psl_len, isl_len, nrows_len, rnR_len]; omega)) (by (refine .sl ?_; (simp [isl]; done))) (by omega) rfl (rfl) (rfl)) ?_
   refine DL_c (op_as _ (rfl : _ = AV.ref _ _ _)) ?_
   refine DL_nil (hK15 _ ?_)
   clear hK15; try clear K15
   refine D_seq fun K16 hK16 => ?_
   refine D_le (σ' := mkStI 99 [(0, _), (1, _), (6, _), (7, _), (9, _), (10, _)] [((15, 0), _), ((42, 0), _)] [] []) (by
    refine Le.mkJ [] [] rfl ?_ ?_ trivial trivial ?_
    ·exact ⟨(iS rfl), (iS rfl), (iR rfl), (iR rfl), (iV rfl), (iV rfl), trivial⟩
    ·exact ⟨(obE rfl rfl rfl), (obE rfl rfl rfl), trivial⟩
    ·kernel_rfl) ?_
   refine D_region ?_
   refine DL_c (op_as _ (rfl : _ = AV.v (.slice _ _ _))) ?_
   refine DL_nil (hK16 _ ?_)
   clear hK16; try clear K16
   refine D_seq fun K17 hK17 => ?_
   refine D_region ?_
   refine DL_c (op_mv _ (rfl : _ = AV.v (.slice _ _ _))) ?_
   refine DL_c (op_mv _ (rfl : _ = AV.ref _ _ _)) ?_
   refine DL_c (op_mv _ (rfl : _ = AV.v (.int _ _))) ?_
   refine DL_c (op_slR _ _ _ inferInstance rfl rfl 0 _ .dflt (.lit rfl rfl) (by omega) (by omega) (by exact (Nat.zero_add _).trans (Nat.mul_one _)) (Nat.sub_zero _)) ?_
   refine DL_c (op_ap0 (47, 0) _ _ inferInstance rfl (by (refine .ref rfl rfl ?_; (simp; omega))) (by omega) rfl) ?_
   refine DL_c (op_as _ (rfl : _ = AV.ref _ _ _)) ?_
   refine DL_nil (hK17 _ ?_)
   clear hK17; try clear K17
   refine D_region ?_
   refine DL_c (op_mv _ (rfl : _ = AV.ref _ _ _)) ?_
   refine DL_c (op_mv _ (rfl : _ = AV.ref _ _ _)) ?_
   refine DL_c (op_mv _ (rfl : _ = AV.v (.int _ _))) ?_
   refine DL_c (op_add _ _ rfl rfl (i64w (by omega))) ?_
   refine DL_c (op_slR _ _ _ inferInstance rfl rfl (k + 1) _ (.lit rfl rfl) .dflt (by omega) (by omega) (by exact (Nat.zero_add _).trans (Nat.mul_one _)) rfl) ?_
   refine DL_c (op_ap (53, 0) _ _ inferInstance rfl rfl (by (simp; omega)) (by (refine .ref rfl rfl ?_; (simp; omega))) (by omega) rfl (rfl) (rfl)) ?_
   refine DL_c (op_as _ (rfl : _ = AV.ref _ _ _)) ?_
   refine DL_nil (hK13 _ ?_)
   clear hK13; try clear K13
   refine D_region ?_
   refine DL_c (op_mv _ (rfl : _ = AV.v (.int _ _))) ?_
   refine DL_c (op_add _ _ rfl rfl (i64w (by omega))) ?_
   refine DL_c (op_as _ (rfl : _ = AV.v (.int _ _))) ?_
   refine DL_nil ?_
   refine ⟨i + 1, ?_, ?_, ?_⟩
   ·omega
   ·skip
    refine Le.mkJ [((6, 0), (42, 0)), ((15, 0), (53, 0))] [] rfl ?_ ?_ trivial trivial ?_
    ·exact ⟨(by repeat' (exact Lv.sl)), (by repeat' (exact Lv.sl)), (lvI (by rfl)), (lvRr rfl (by rfl)), (lvRr rfl (by omega)), trivial⟩
    ·exact ⟨(obR rfl rfl rfl (by rw [hs1, ← nsl_append]; rfl)), (obR rfl rfl rfl (by rw [hs2, ← nsl_append, ← nsl_take, ← nsl_drop]; simp; rw [List.take_of_length_le (by rw [List.length_drop, nsl_len, hr2]; omega)])), trivial⟩
    ·kernel_rfl
   ·omega
  ·skip
   obtain rfl : i = v := by omega
   obtain ⟨to, hto⟩ : ∃ to, to = toP l i := ⟨_, rfl⟩
   have hto2 : (rnS l i i).1 = to := hto.symm
   have hpm : Pm i to := hto ▸ toP_pm l i
   have htl := hpm.len
   refine D_exit ?_
   refine id (hK9 _ ?_)
   clear hK9; try clear K9
   refine D_seq fun K18 hK18 => ?_
   refine D_region ?_
   refine DL_c (op_mv _ (rfl : _ = AV.sl _ _)) ?_
   refine DL_c (op_lenS _ inferInstance rfl) ?_
   refine DL_c (op_mkB (56, 0) _ _ inferInstance rfl rfl i rfl rfl (by omega) rfl (rep_nil i)) ?_
   refine DL_c (op_as _ (rfl : _ = AV.ref _ _ _)) ?_
   refine DL_nil (hK18 _ ?_)
   clear hK18; try clear K18
   refine D_seq fun K19 hK19 => ?_
   refine D_seq fun K20 hK20 => ?_
   refine D_le (σ' := mkStB 99 [(0, _), (6, _), (12, _)] [((6, 0), _)] ⟨(56, 0), false, 29, 3, 1000, ((rnR i Ps to 0 0).map isl)⟩ [] []) (by
    refine Le.newB 1000 3 rfl (by kernel_rfl) (fun _ => rfl) (fun _ => rfl) rfl [] rfl ?_ ?_ trivial (by kernel_rfl) rfl ?_
    ·exact ⟨(by repeat' (exact Lv.sl)), (lvRr (id := (6, 0)) rfl rfl), (lvRr (id := (56, 0)) rfl rfl), trivial⟩
    ·exact ⟨(obR rfl rfl rfl rfl), trivial⟩
    ·exact rn_zero i Ps to) ?_
   refine D_region ?_
   refine DL_c (op_as _ (rfl : _ = AV.v (.int _ _))) ?_
   refine DL_nil (hK20 _ ?_)
   clear hK20; try clear K20
   refine D_block ?_
   refine D_loopLB (α := Nat) (fun u => u ≤ i) 99 [(0, _), (6, _), (12, _)] [((6, 0), _)] (fun u => [(13, .v (.int .i64 (u : Int)))]) (fun u => []) (fun u => ⟨(56, 0), false, 29, 3, 1000, ((rnR i Ps to u 0).map isl)⟩) [] [] (fun u => i - u) 0 ?_ (by
    refine Le.keepB [] [] rfl ?_ ?_ trivial trivial (by kernel_rfl) rfl rfl rfl (fun _ => rfl) (by kernel_rfl) (fun _ => rfl)
    ·exact ⟨(by repeat' (exact Lv.sl)), (lvRr (id := (6, 0)) rfl rfl), (lvRr (id := (56, 0)) rfl rfl), (lvI (by rfl)), trivial⟩
    ·exact ⟨(obR rfl rfl rfl rfl), trivial⟩) ?_
   ·omega
   intro u hu
   refine D_seq fun K21 hK21 => ?_
   refine D_seq fun K22 hK22 => ?_
   refine D_region ?_
   refine DL_c (op_mv _ (rfl : _ = AV.v (.int _ _))) ?_
   refine DL_c (op_mv _ (rfl : _ = AV.sl _ _)) ?_
   refine DL_c (op_lenS _ inferInstance rfl) ?_
   refine DL_c (op_lss _ _ rfl rfl rfl) ?_
   refine DL_nil (hK22 _ ?_)
   clear hK22; try clear K22
   refine D_splitC rfl (fun hc60 => ?_) (fun hc60 => ?_)
   ·skip
    have hul := hm u
    have hdu := hpm.at_lt (v := u) (by omega)
    refine D_skip (hK21 _ ?_)
    clear hK21; try clear K21
    refine D_seq fun K23 hK23 => ?_
    refine D_block ?_
    refine D_seq fun K24 hK24 => ?_
    refine D_region ?_
    refine DL_c (op_as _ (rfl : _ = AV.v (.int _ _))) ?_
    refine DL_nil (hK24 _ ?_)
    clear hK24; try clear K24
    refine D_block ?_
    refine D_loopLB (α := Nat) (fun j => j ≤ (Ps.getD u []).length) 99 [(0, _), (6, _), (12, _), (13, _)] [((6, 0), _)] (fun j => [(14, .v (.int .i64 (j : Int)))]) (fun j => []) (fun j => ⟨(56, 0), false, 29, 3, 1000, ((rnR i Ps to u j).map isl)⟩) [] [] (fun j => (Ps.getD u []).length - j) 0 ?_ (by
     refine Le.keepB [] [] rfl ?_ ?_ trivial trivial (by kernel_rfl) rfl rfl rfl (fun _ => rfl) (by kernel_rfl) (fun _ => rfl)
     ·exact ⟨(by repeat' (exact Lv.sl)), (lvRr (id := (6, 0)) rfl rfl), (lvRr (id := (56, 0)) rfl rfl), (by repeat' (exact Lv.v)), (lvI (by rfl)), trivial⟩
     ·exact ⟨(obR rfl rfl rfl rfl), trivial⟩) ?_
    ·omega
    intro j hj
    have hrl := rnR_len i Ps to u j
    refine D_seq fun K25 hK25 => ?_
    refine D_seq fun K26 hK26 => ?_
    refine D_region ?_
    refine DL_c (op_mv _ (rfl : _ = AV.v (.int _ _))) ?_
    refine DL_c (op_mv _ (rfl : _ = AV.sl _ _)) ?_
    refine DL_c (op_mv _ (rfl : _ = AV.v (.int _ _))) ?_
    refine DL_c (op_ixS _ _ inferInstance rfl rfl u rfl (by omega) (by omega) (Nat.mul_one _)) ?_
    refine DL_c (op_ldF _ inferInstance rfl (by exact nrows_get _ _ (by omega)) rfl) ?_
    refine DL_c (op_lenS _ inferInstance rfl) ?_
    refine DL_c (op_lss _ _ rfl rfl rfl) ?_
    refine DL_nil (hK26 _ ?_)
    clear hK26; try clear K26
    refine D_splitC rfl (fun hc69 => ?_) (fun hc69 => ?_)
    ·skip
     have hpb := (hV u (by omega)).2 _ (getD_memI (show j < (Ps.getD u []).length by omega))
     have hgl : ((rnR i Ps to u j).getD (to.getD u 0) []).length = j := by rw [rnR_get hpm (by omega), List.length_map, List.length_take]; omega
     refine D_skip (hK25 _ ?_)
     clear hK25; try clear K25
     refine D_seq fun K27 hK27 => ?_
     refine D_block ?_
     refine D_le (σ' := mkStB 99 [(0, _), (6, _), (12, _), (13, _), (14, _)] [((6, 0), _)] ⟨(56, 0), false, 29, 3, 1000, _⟩ [] []) (by
      refine Le.keepB [] [] rfl ?_ ?_ trivial trivial (by kernel_rfl) rfl rfl rfl (fun _ => rfl) (by kernel_rfl) (fun _ => rfl)
      ·exact ⟨(by repeat' (exact Lv.sl)), (lvRr (id := (6, 0)) rfl rfl), (lvRr (id := (56, 0)) rfl rfl), (by repeat' (exact Lv.v)), (by repeat' (exact Lv.v)), trivial⟩
      ·exact ⟨(obR rfl rfl rfl rfl), trivial⟩) ?_
     refine D_anyL 25 [72, 73, 74, 75, 76, 77, 78, 79, 80, 81, 82, 83, 84, 85, 86, 87, 88, 89, 90, 91, 92, 93, 94, 95, 96] [(1000, to.getD u 0), (95, 0)] (by kernel_rfl) (by kernel_rfl) rfl (nodupO_iff rfl) (rfl : _ = [_, _, _, _, _, _, _, _, _, _, _, _, _, _, _, _, _, _, _, _, _, _, _, _, _]) (rfl : _ = [_]) ?_
     refine any_c (_, []) (fun τ => op_mv _ (rfl : _ = AV.ref _ _ _)) ?_
     refine any_n (rfl : _ = [_]) ?_
     refine any_c (_, []) (fun τ => op_mv _ (rfl : _ = AV.ref _ _ _)) ?_
     refine any_n (rfl : _ = [_, _]) ?_
     refine any_c (_, []) (fun τ => op_mv _ (rfl : _ = AV.v (.int _ _))) ?_
     refine any_n (rfl : _ = [_, _, _]) ?_
     refine any_c (_, []) (fun τ => op_ixR _ _ inferInstance rfl rfl rfl u rfl (by omega) (by exact (Nat.zero_add _).trans (Nat.mul_one _))) ?_
     refine any_n (rfl : _ = [_, _, _, _]) ?_
     refine any_c (_, []) (fun τ => op_ldR _ inferInstance rfl rfl (by exact (nsl_get _ _ (by rw [hto2]; omega)).trans (by rw [hto2])) rfl) ?_
     refine any_n (rfl : _ = [_, _, _, _, _]) ?_
     refine any_c (_, []) (fun τ => op_mv _ (rfl : _ = AV.ref _ _ _)) ?_
     refine any_n (rfl : _ = [_, _, _, _, _, _]) ?_
     refine any_c (_, []) (fun τ => op_mv _ (rfl : _ = AV.ref _ _ _)) ?_
     refine any_n (rfl : _ = [_, _, _, _, _, _, _]) ?_
     refine any_c (_, []) (fun τ => op_mv _ (rfl : _ = AV.v (.int _ _))) ?_
     refine any_n (rfl : _ = [_, _, _, _, _, _, _, _]) ?_
     refine any_c (_, []) (fun τ => op_ixR _ _ inferInstance rfl rfl rfl u rfl (by omega) (by exact (Nat.zero_add _).trans (Nat.mul_one _))) ?_
     refine any_n (rfl : _ = [_, _, _, _, _, _, _, _, _]) ?_
     refine any_c (_, []) (fun τ => op_ldR _ inferInstance rfl rfl (by exact (nsl_get _ _ (by rw [hto2]; omega)).trans (by rw [hto2])) rfl) ?_
     refine any_n (rfl : _ = [_, _, _, _, _, _, _, _, _, _]) ?_
     refine any_c (_, []) (fun τ => op_ixB _ _ inferInstance rfl rfl rfl _ rfl (by omega) (by exact (Nat.zero_add _).trans (Nat.mul_one _))) ?_
     refine any_n (rfl : _ = [_, _, _, _, _, _, _, _, _, _, _]) ?_
     refine any_c (_, []) (fun τ => op_ldB _ inferInstance rfl rfl (bun_cell (f := 1000) (b := ⟨(56, 0), false, 29, 3, 1000, _⟩) (j := to.getD u 0) (n := ((rnR i Ps to u j).getD (to.getD u 0) []).length) rfl (by (simp only [isl_len, bsl_len, psl_len, mrows_len, nsl_len, ws_len, List.length_map, ul_len, psl_len, isl_len, nrows_len, rnR_len]; omega)) (by (rw [irow_get, isl_len])) rfl)) ?_
     refine any_n (rfl : _ = [_, _, _, _, _, _, _, _, _, _, _, _]) ?_
     refine any_c (_, []) (fun τ => op_mv _ (rfl : _ = AV.ref _ _ _)) ?_
     refine any_n (rfl : _ = [_, _, _, _, _, _, _, _, _, _, _, _, _]) ?_
     refine any_c (_, []) (fun τ => op_mv _ (rfl : _ = AV.sl _ _)) ?_
     refine any_n (rfl : _ = [_, _, _, _, _, _, _, _, _, _, _, _, _, _]) ?_
     refine any_c (_, []) (fun τ => op_mv _ (rfl : _ = AV.v (.int _ _))) ?_
     refine any_n (rfl : _ = [_, _, _, _, _, _, _, _, _, _, _, _, _, _, _]) ?_
     refine any_c (_, []) (fun τ => op_ixS _ _ inferInstance rfl rfl u rfl (by omega) (by omega) (Nat.mul_one _)) ?_
     refine any_n (rfl : _ = [_, _, _, _, _, _, _, _, _, _, _, _, _, _, _, _]) ?_
     refine any_c (_, []) (fun τ => op_ldF _ inferInstance rfl (by exact nrows_get _ _ (by omega)) rfl) ?_
     refine any_n (rfl : _ = [_, _, _, _, _, _, _, _, _, _, _, _, _, _, _, _, _]) ?_
     refine any_c (_, []) (fun τ => op_mv _ (rfl : _ = AV.v (.int _ _))) ?_
     refine any_n (rfl : _ = [_, _, _, _, _, _, _, _, _, _, _, _, _, _, _, _, _, _]) ?_
     refine any_c (_, []) (fun τ => op_ixS _ _ inferInstance rfl rfl _ rfl (by omega) (by (simp only [isl_len, bsl_len, psl_len, mrows_len, nsl_len, ws_len, List.length_map, ul_len, psl_len, isl_len, nrows_len, rnR_len]; omega)) (by exact Nat.mul_one _)) ?_
     refine any_n (rfl : _ = [_, _, _, _, _, _, _, _, _, _, _, _, _, _, _, _, _, _, _]) ?_
     refine any_c (_, []) (fun τ => op_ldF _ inferInstance rfl (by exact isl_get _ _ (by omega)) rfl) ?_
     refine any_n (rfl : _ = [_, _, _, _, _, _, _, _, _, _, _, _, _, _, _, _, _, _, _, _]) ?_
     refine any_c (_, []) (fun τ => op_ixR _ _ inferInstance rfl rfl rfl ((Ps.getD u []).getD j 0).toNat (Int.toNat_of_nonneg (by omega)).symm (by omega) (by exact (Nat.zero_add _).trans (Nat.mul_one _))) ?_
     refine any_n (rfl : _ = [_, _, _, _, _, _, _, _, _, _, _, _, _, _, _, _, _, _, _, _, _]) ?_
     refine any_c (_, []) (fun τ => op_ldR _ inferInstance rfl rfl (by exact (nsl_get _ _ (by rw [hto2]; omega)).trans (by rw [hto2])) rfl) ?_
     refine any_n (rfl : _ = [_, _, _, _, _, _, _, _, _, _, _, _, _, _, _, _, _, _, _, _, _, _]) ?_
     refine any_c (_, []) (fun τ => op_bsF _ _ inferInstance rfl (by rfl) (by simp <;> rfl) (by decide) rfl) ?_
     refine any_n (rfl : _ = [_, _, _, _, _, _, _, _, _, _, _, _, _, _, _, _, _, _, _, _, _, _, _]) ?_
     refine any_c (_, [((1000, to.getD u 0), .gone), ((95, 0), _)]) (fun τ => op_apN (95, 0) _ _ inferInstance rfl (mix_own rfl (by exact inO_head) (bun_row (b := ⟨(56, 0), false, 29, 3, 1000, _⟩) rfl (by rfl) rfl (by (simp only [isl_len, bsl_len, psl_len, mrows_len, nsl_len, ws_len, List.length_map, ul_len, psl_len, isl_len, nrows_len, rnR_len]; omega)) (by exact irow_get _ _))) (by (simp only [isl_len, bsl_len, psl_len, mrows_len, nsl_len, ws_len, List.length_map, ul_len, psl_len, isl_len, nrows_len, rnR_len]; omega)) (by (refine .sl ?_; (simp [isl]; done))) (by omega) rfl rfl rfl (rfl) (rfl)) ?_
     refine any_n (rfl : _ = [_, _, _, _, _, _, _, _, _, _, _, _, _, _, _, _, _, _, _, _, _, _, _, _]) ?_
     refine any_c (_, []) (fun τ => op_ixB _ _ inferInstance rfl rfl rfl _ rfl (by omega) (by exact (Nat.zero_add _).trans (Nat.mul_one _))) ?_
     refine any_n (rfl : _ = [_, _, _, _, _, _, _, _, _, _, _, _, _, _, _, _, _, _, _, _, _, _, _, _, _]) ?_
     refine any_end ⟨rfl, ?_⟩
     refine DL_c (op_stB _ _ inferInstance rfl rfl rfl rfl (by (simp only [Bun.cells_len, isl_len, bsl_len, psl_len, mrows_len, nsl_len, ws_len, List.length_map, ul_len, psl_len, isl_len, nrows_len, rnR_len, List.length_cons, List.length_nil]; omega)) (putL_one _ _ _ (by (simp only [Bun.cells_len, isl_len, bsl_len, psl_len, mrows_len, nsl_len, ws_len, List.length_map, ul_len, psl_len, isl_len, nrows_len, rnR_len, List.length_cons, List.length_nil]; omega)))) ?_
     refine DL_nil (hK27 _ ?_)
     clear hK27; try clear K27
     refine D_region ?_
     refine DL_c (op_mv _ (rfl : _ = AV.v (.int _ _))) ?_
     refine DL_c (op_add _ _ rfl rfl (i64w (by omega))) ?_
     refine DL_c (op_as _ (rfl : _ = AV.v (.int _ _))) ?_
     refine DL_nil ?_
     refine ⟨j + 1, ?_, ?_, ?_⟩
     ·omega
     ·skip
      refine Le.setB ((to.getD u 0)) (95, 0) [] [] rfl ?_ ?_ trivial trivial (by kernel_rfl) (by kernel_rfl) ?_ ?_ rfl rfl rfl rfl (by exact fun j hj => bun_other hj) (by kernel_rfl) (fun _ => rfl)
      ·exact ⟨(by repeat' (exact Lv.sl)), (lvRr (id := (6, 0)) rfl rfl), (lvRr (id := (56, 0)) rfl rfl), (by repeat' (exact Lv.v)), (lvI (by rfl)), trivial⟩
      ·exact ⟨(obR rfl rfl rfl rfl), trivial⟩
      ·exact rn_set hpm (by omega) (by omega)
      ·(simp; done)
     ·omega
    ·skip
     have hjl : j = (Ps.getD u []).length := by omega
     refine D_exit ?_
     refine id (hK23 _ ?_)
     clear hK23; try clear K23
     refine D_region ?_
     refine DL_c (op_mv _ (rfl : _ = AV.v (.int _ _))) ?_
     refine DL_c (op_add _ _ rfl rfl (i64w (by omega))) ?_
     refine DL_c (op_as _ (rfl : _ = AV.v (.int _ _))) ?_
     refine DL_nil ?_
     refine ⟨u + 1, ?_, ?_, ?_⟩
     ·omega
     ·skip
      refine Le.keepB [] [] rfl ?_ ?_ trivial trivial (by kernel_rfl) ?_ rfl rfl (fun _ => rfl) (by kernel_rfl) (fun _ => rfl)
      ·exact ⟨(by repeat' (exact Lv.sl)), (lvRr (id := (6, 0)) rfl rfl), (lvRr (id := (56, 0)) rfl rfl), (lvI (by rfl)), trivial⟩
      ·exact ⟨(obR rfl rfl rfl rfl), trivial⟩
      ·rw [hjl, rnR_next]
     ·omega
   ·skip
    obtain rfl : u = i := by omega
    have hrn : ren32 Ps to = rnR u Ps to u 0 := by unfold ren32; rw [hPs]
    refine D_exit ?_
    refine id (hK19 _ ?_)
    clear hK19; try clear K19
    refine D_seq fun K28 hK28 => ?_
    refine D_le (σ' := mkStI 99 [(6, _), (12, _)] ([((6, 0), _)] ++ [((56, 0), _)]) [] []) (Le.frzFam 1000 rfl ⟨(iR rfl), (iR rfl), trivial⟩ ⟨⟨rfl, ⟨_, rfl, lvO_id _⟩, rfl⟩, frzOuter rfl rfl (fun _ => rfl) (by kernel_rfl) rfl rfl, trivial⟩ (fun _ => rfl) trivial (by kernel_rfl)) ?_
    refine D_le (σ' := mkStI 99 [(6, _), (12, .sl _ _)] [((6, 0), _)] [] []) (Le.mkJ [] [(56, 0)] rfl ⟨(iR rfl), (Lv.frzR rfl rfl (downs_isl _)), trivial⟩ ⟨(obE rfl rfl rfl), trivial⟩ ⟨rfl, trivial⟩ trivial (by kernel_rfl)) ?_
    refine D_region ?_
    refine DL_c (op_mv _ (rfl : _ = AV.sl _ _)) ?_
    refine DL_c (op_mv _ (rfl : _ = AV.ref _ _ _)) ?_
    refine DL_c (op_as _ (rfl : _ = AV.sl _ _)) ?_
    refine DL_c (op_as _ (rfl : _ = AV.ref _ _ _)) ?_
    refine DL_nil (hK28 _ ?_)
    clear hK28; try clear K28
    refine D_ret ?_
    rw [← hto, hrn]
    exact ret2 (.inr rfl) rfl (.tmp (rfl : _ = AV.sl _ _)) (.tmp (rfl : _ = AV.ref _ _ _)) (Le.out [] [(6, 0)] (.tup rfl (lv_cons .sl (lv_cons (frz0 rfl rfl (by rw [nsl_len, hto2]; omega) (by rw [hto2])) lv_nil))) rfl rfl rfl ⟨rfl, trivial⟩ trivial)
end Go.Proofs.Ytkbkmngbenohkaa

namespace Go.Proofs.Ytkbkmngbenohkaa
open Go.RowKit

theorem newGG_spec {n : Nat} {Ps : List (List Int)} (hG : GG n Ps) (hS : ∀ a, a < n → (nxt (edg Ps n 0) a).length ≤ 12) :
  Spec Try.prog 58 (inSt [.sl n (nrows Ps)] []) (outSt (.tup [.fp 0 (gra n (parW Ps) (ancW n (edg Ps n 0))), .v (.int .i64 0)]) []) := by
 have h1 := vnew_spec n Ps hG.len (by have := hG.n64; omega) (fun v => by have := hG.m v; omega) fun _ _ => hS
 have h2 := newV_ok (Ps := Ps) (by rw [hG.len]; have := hG.n64; omega) hG.V (by rw [hG.len]; exact hG.ac)
 rw [h2, hG.len] at h1
 exact h1
theorem ren_spec {n : Nat} {Ps : List (List Int)} (hN : Near Ps) (hPs : Ps.length = n) (m : Nat) (l : List Int) (hl : l.length = m) (h1 : m ≤ 4611686018427387904) (hr : Rng l) :
  Spec Try.prog 69 (inSt [.sl n (nrows Ps), .sl m (isl l)] []) (outSt (.tup [.sl n (nrows (ren32 Ps (toP l n))), .sl n (nsl (toP l n))]) []) :=
 renamed_spec n Ps hPs (by have := hN.n; omega) hN.valid (fun v => by have := hN.rows v; omega) m l hl h1 hr
end Go.Proofs.Ytkbkmngbenohkaa

namespace Go.Proofs.Ytkbkmngbenohkaa
open Go.RowKit

theorem upE_ren {Ps : List (List Int)} {to : List Nat} (h : Pm Ps.length to) (hV : Valid Ps) (h64 : Ps.length ≤ 64) {u v : Nat} (hu : u < Ps.length) (hv : v < Ps.length) : to.getD u 0 ∈ upE (ren32 Ps to) (to.getD v 0) ↔ u ∈ upE Ps v := by
 have h1 := upE_mem (Ps := ren32 Ps to) (by rw [ren32_len]; exact h64) (v := to.getD v 0) (u := to.getD u 0) (by rw [ren32_len]; exact h.at_lt hv)
 rw [ren32_len, ren32_cl h hV hu hv] at h1
 rw [h1, upE_mem h64 hv]
 constructor
 ·rintro ⟨_, h2⟩
  refine ⟨hu, ?_⟩
  rcases h2 with h2 | h2
  ·exact .inl (h.inj hu hv h2)
  ·exact .inr h2
 ·rintro ⟨_, h2⟩
  refine ⟨h.at_lt hu, ?_⟩
  rcases h2 with rfl | h2
  ·exact .inl rfl
  ·exact .inr h2
theorem upE_ren_lt {Ps : List (List Int)} {to : List Nat} (h : Pm Ps.length to) (h64 : Ps.length ≤ 64) {x v : Nat} (hv : v < Ps.length) (hx : x ∈ upE (ren32 Ps to) v) : x < Ps.length := by
 have h1 := (upE_mem (Ps := ren32 Ps to) (by rw [ren32_len]; exact h64) (v := v) (by rw [ren32_len]; exact hv)).1 hx
 rw [ren32_len] at h1
 exact h1.1
/-- The statuses under new numbers, up to the k-th. -/
def tS (n : Nat) (to : List Nat) (st : List Int) (k : Nat) : List Int := (List.range n).map fun u => if to.idxOf u < k then st.getD (to.idxOf u) 0 else 0
@[simp] theorem tS_len (n : Nat) (to : List Nat) (st : List Int) (k : Nat) : (tS n to st k).length = n := by simp [tS]
theorem tS_zero (n : Nat) (to : List Nat) (st : List Int) : tS n to st 0 = List.replicate n 0 := by
 apply List.ext_getElem
 ·simp
 ·intro i h1 h2; simp [tS]
theorem tS_succ {n : Nat} {to : List Nat} (h : Pm n to) {st : List Int} {k : Nat} (hk : k < n) : tS n to st (k + 1) = (tS n to st k).set (to.getD k 0) (st.getD k 0) := by
 apply List.ext_getElem
 ·simp
 ·intro i h1 h2
  have hi : i < n := by simpa using h1
  rw [List.getElem_set]
  simp only [tS, List.getElem_map, List.getElem_range]
  by_cases h3 : to.getD k 0 = i
  ·rw [if_pos h3, ← h3, h.idx hk, if_pos (Nat.lt_succ_self k)]
  ·rw [if_neg h3]
   have h5 : to.idxOf i ≠ k := fun e => h3 (by rw [← e]; exact (h.back hi).2)
   by_cases h4 : to.idxOf i < k
   ·rw [if_pos h4, if_pos (by omega)]
   ·rw [if_neg h4, if_neg (by omega)]
theorem tS_get {n : Nat} {to : List Nat} (h : Pm n to) {st : List Int} {v : Nat} (hv : v < n) : (tS n to st n).getD (to.getD v 0) 0 = st.getD v 0 := by
 unfold tS
 rw [List.getD_eq_getElem?_getD, List.getElem?_map, List.getElem?_range (h.at_lt hv), Option.map_some, Option.getD_some, h.idx hv, if_pos hv]
theorem rmin_ren {Ps : List (List Int)} {to : List Nat} (h : Pm Ps.length to) (hV : Valid Ps) (h64 : Ps.length ≤ 64) {st : List Int} {v : Nat} (hv : v < Ps.length) : rmin (ren32 Ps to) (tS Ps.length to st Ps.length) (to.getD v 0) ↔ rmin Ps st v := by
 unfold rmin
 rw [tS_get h hv]
 refine and_congr_right fun _ => ⟨fun h1 u hu hne => ?_, fun h1 x hx hne => ?_⟩
 ·have hun := ((upE_mem h64 hv).1 hu).1
  have := h1 _ ((upE_ren h hV h64 hun hv).2 hu) fun e => hne (h.inj hun hv e)
  rw [tS_get h hun] at this
  exact this
 ·have hxn := upE_ren_lt h h64 (h.at_lt hv) hx
  obtain ⟨hi, hb⟩ := h.back hxn
  rw [← hb, tS_get h hi]
  rw [← hb] at hx hne
  exact h1 _ ((upE_ren h hV h64 hi hv).1 hx) fun e => hne (by rw [e])
/-- What the law looks at. -/
structure RN (n : Nat) (to : List Nat) (a b : List (Nat × List Nat)) : Prop where
 len : a.length = b.length
 av : ∀ i, i < a.length → (a.getD i (0, [])).1 < n
 asl : ∀ i, i < a.length → ∀ u ∈ (a.getD i (0, [])).2, u < n
 hit : ∀ i, i < a.length → ∃ j, j < b.length ∧ (b.getD j (0, [])).1 = to.getD (a.getD i (0, [])).1 0
 sus : ∀ i, i < a.length → ∀ j, j < b.length → (b.getD j (0, [])).1 = to.getD (a.getD i (0, [])).1 0 → ((b.getD j (0, [])).2.map fun (x : Nat) => (x : Int)) = ssrt ((a.getD i (0, [])).2.map fun u => ((to.getD u 0 : Nat) : Int))
theorem ren_rn {Ps : List (List Int)} {to : List Nat} (h : Pm Ps.length to) (hV : Valid Ps) (h64 : Ps.length ≤ 64) {st : List Int} (hst : st.length = Ps.length) {v : Nat} (hv : v < Ps.length) :
  RN Ps.length to (minL Ps.length (edg Ps Ps.length 0) st (upE Ps v)) (minL Ps.length (edg (ren32 Ps to) Ps.length 0) (tS Ps.length to st Ps.length) (upE (ren32 Ps to) (to.getD v 0))) := by
 have hlt : ∀ u ∈ upE Ps v, u < Ps.length := fun u hu => ((upE_mem h64 hv).1 hu).1
 have hlt' : ∀ u ∈ upE (ren32 Ps to) (to.getD v 0), u < Ps.length := fun u hu => upE_ren_lt h h64 (h.at_lt hv) hu
 have hri : ∀ {w : Nat}, w < Ps.length → ((aw1 Ps.length (edg (ren32 Ps to) Ps.length 0) (to.getD w 0) &&& whr (tS Ps.length to st Ps.length) 1) = 2 ^ (to.getD w 0) ↔ (aw1 Ps.length (edg Ps Ps.length 0) w &&& whr st 1) = 2 ^ w) := by
  intro w hw
  have h2 := rmin_iff (Ps := ren32 Ps to) (by rw [ren32_len]; exact h64) (st := tS Ps.length to st Ps.length) (by simp) (v := to.getD w 0) (by rw [ren32_len]; exact h.at_lt hw)
  rw [ren32_len] at h2
  rw [← h2, rmin_ren h hV h64 hw, rmin_iff h64 hst hw]
 have hperm : ((minL Ps.length (edg Ps Ps.length 0) st (upE Ps v)).map (·.1)).map (fun w => to.getD w 0) |>.Perm ((minL Ps.length (edg (ren32 Ps to) Ps.length 0) (tS Ps.length to st Ps.length) (upE (ren32 Ps to) (to.getD v 0))).map (·.1)) := by
  rw [minL_fst, minL_fst]
  refine (List.perm_ext_iff_of_nodup ?_ ((upE_nodup _ _).filter _)).2 fun x => ?_
  ·rw [List.nodup_iff_pairwise_ne, List.pairwise_map]
   refine List.Pairwise.imp_of_mem ?_ (List.nodup_iff_pairwise_ne.1 ((upE_nodup Ps v).filter _))
   intro a b ha hb hne he
   exact hne (h.inj (hlt a (List.mem_filter.1 ha).1) (hlt b (List.mem_filter.1 hb).1) he)
  ·rw [List.mem_map, List.mem_filter]
   constructor
   ·rintro ⟨w, hw, rfl⟩
    obtain ⟨h1, h2⟩ := List.mem_filter.1 hw
    have hwn := hlt w h1
    exact ⟨(upE_ren h hV h64 hwn hv).2 h1, by rw [beq_iff_eq] at h2 ⊢; exact (hri hwn).2 h2⟩
   ·rintro ⟨h1, h2⟩
    have hxn := hlt' x h1
    obtain ⟨hi, hb⟩ := h.back hxn
    rw [← hb] at h1 h2
    refine ⟨to.idxOf x, List.mem_filter.2 ⟨(upE_ren h hV h64 hi hv).1 h1, ?_⟩, hb⟩
    rw [beq_iff_eq] at h2 ⊢
    exact (hri hi).1 h2
 have hav : ∀ i, i < (minL Ps.length (edg Ps Ps.length 0) st (upE Ps v)).length → ((minL Ps.length (edg Ps Ps.length 0) st (upE Ps v)).getD i (0, [])).1 < Ps.length := fun i hi => hlt _ (minL_mem (getD_mem' (0, []) hi)).1
 refine ⟨by simpa using hperm.length_eq, hav, fun i hi u hu => ?_, fun i hi => ?_, fun i hi j hj he => ?_⟩
 ·rw [(minL_mem (getD_mem' (0, []) hi)).2.2] at hu
  exact ((sus_mem h64).1 hu).1
 ·have hm : to.getD ((minL Ps.length (edg Ps Ps.length 0) st (upE Ps v)).getD i (0, [])).1 0 ∈ ((minL Ps.length (edg Ps Ps.length 0) st (upE Ps v)).map (·.1)).map (fun w => to.getD w 0) :=
   List.mem_map.2 ⟨_, List.mem_map.2 ⟨_, getD_mem' (0, []) hi, rfl⟩, rfl⟩
  have h1 := hperm.mem_iff.1 hm
  obtain ⟨x, hx, hxe⟩ := List.mem_map.1 h1
  obtain ⟨j, hj, hje⟩ := List.getElem_of_mem hx
  exact ⟨j, hj, by rw [List.getD_eq_getElem?_getD, List.getElem?_eq_getElem hj, Option.getD_some, hje]; exact hxe⟩
 ·have h1 := (minL_mem (getD_mem' (0, []) hi)).2.2
  have h2 := (minL_mem (getD_mem' (0, []) hj)).2.2
  have hwn := hav i hi
  rw [h2, h1, he]
  generalize ((minL Ps.length (edg Ps Ps.length 0) st (upE Ps v)).getD i (0, [])).1 = w at hwn
  have hT : ∀ a, a < Ps.length → (whr (tS Ps.length to st Ps.length) 2).testBit (to.getD a 0) = (whr st 2).testBit a := by
   intro a ha
   rw [whr2_bit (by rw [tS_len]; exact h.at_lt ha), whr2_bit (by omega), tS_get h ha]
  rw [ssrt_srt, susW, els_cw h64]
  symm
  refine srt_set ⟨?_, fun p hp => ?_⟩ _ fun x hx => ?_
  ·rw [List.nodup_iff_pairwise_ne, List.pairwise_map]
   refine List.Pairwise.imp_of_mem ?_ (List.nodup_iff_pairwise_ne.1 (List.Pairwise.filter _ List.nodup_range))
   intro a b ha hb hne hab
   have h3 := ((sus_mem h64).1 ha).1
   have h4 := ((sus_mem h64).1 hb).1
   exact hne (h.inj h3 h4 (by omega))
  ·obtain ⟨u, hu, rfl⟩ := List.mem_map.1 hp
   have := h.at_lt ((sus_mem h64).1 hu).1
   omega
  ·rw [cl_iff, List.mem_map]
   constructor
   ·rintro ⟨u, hu, hue⟩
    obtain ⟨h3, h4⟩ := (sus_mem h64).1 hu
    have : x = to.getD u 0 := by omega
    rw [this]
    exact (ren32_clo h hV _ _ hT h3 hwn).2 h4
   ·intro hc
    obtain ⟨hi2, hb2⟩ := h.back hx
    rw [← hb2] at hc
    exact ⟨to.idxOf x, (sus_mem h64).2 ⟨hi2, (ren32_clo h hV _ _ hT hi2 hwn).1 hc⟩, by rw [hb2]⟩
end Go.Proofs.Ytkbkmngbenohkaa

namespace Go.Proofs.Ytkbkmngbenohkaa
open Go.RowKit

def wnt (to : List Nat) (l : List Nat) (j : Nat) : List Int := (l.take j).map fun u => ((to.getD u 0 : Nat) : Int)
theorem wnt_succ {to l : List Nat} {j : Nat} (h : j < l.length) : wnt to l (j + 1) = wnt to l j ++ [((to.getD (l.getD j 0) 0 : Nat) : Int)] := by unfold wnt; rw [take1 0 h, List.map_append]; rfl
end Go.Proofs.Ytkbkmngbenohkaa
