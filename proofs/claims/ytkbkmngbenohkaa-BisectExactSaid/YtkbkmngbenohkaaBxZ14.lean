/- Part 14 of the texts that the walk leans on: the machine, the walks, the plain laws. -/
import Derived.Test.YtkbkmngbenohkaaBxZ13
set_option linter.unusedSimpArgs false
set_option linter.unusedVariables false
namespace Go.Proofs.Ytkbkmngbenohkaa
open Go.RowKit

section
variable {n : Nat} {Ps : List (List Int)}
theorem anR_iff (hPs : Ps.length = n) {a v : Nat} : anR n (ancW n (edg Ps n 0)) a v = true ↔ a ∈ upE Ps v := by
 subst hPs
 unfold anR upE
 rw [decide_eq_true_eq]
theorem upE_out (hPs : Ps.length = n) {a v : Nat} (h : a ∈ upE Ps v) : v < n := by
 subst hPs
 unfold upE wat at h
 split at h
 ·omega
 ·simp at h
theorem wat_par (hPs : Ps.length = n) (h64 : n ≤ 64) (hV : Valid Ps) {v p : Nat} : p ∈ wat n (parW Ps) (v : Int) ↔ v < n ∧ ((p : Int), (v : Int)) ∈ edg Ps n 0 := by
 subst hPs
 have hW := parW_pw hV h64
 unfold wat
 by_cases hv : v < Ps.length
 ·rw [if_pos (by omega), Int.toNat_natCast, els_mem, hW.m v hv]
  refine ⟨fun h => ⟨hv, h.2⟩, fun h => ⟨?_, h.2⟩⟩
  obtain ⟨u, hu, h1, h2⟩ := edg_mem.1 h.2
  have := (hV u hu).2 _ h2
  simp only at this
  omega
 ·rw [if_neg (by omega)]
  simp [hv]
theorem gr_of (hPs : Ps.length = n) (h64 : n ≤ 64) (hV : Valid Ps) (hlt : ∀ {a b : Nat}, Clo (edg Ps n 0) a b → a < b) : GR n (anR n (ancW n (edg Ps n 0))) (fun v => wat n (parW Ps) (v : Int)) := by
 refine ⟨fun {a v} h => ?_, fun {v} hv => ?_, fun {a b c} h1 h2 => ?_, fun {a b} h => ?_, fun {v p} h => ?_⟩
 ·rw [anR_iff hPs] at h
  have hv := upE_out hPs h
  subst hPs
  exact ⟨((upE_mem h64 hv).1 h).1, hv⟩
 ·rw [anR_iff hPs]
  subst hPs
  exact (upE_mem h64 hv).2 ⟨hv, .inl rfl⟩
 ·rw [anR_iff hPs] at h1 h2 ⊢
  have hb := upE_out hPs h1
  have hc := upE_out hPs h2
  subst hPs
  exact upE_trans h64 hb hc h1 h2
 ·rw [anR_iff hPs] at h
  have hb := upE_out hPs h
  subst hPs
  rcases ((upE_mem h64 hb).1 h).2 with rfl | h
  ·exact Nat.le_refl _
  ·exact Nat.le_of_lt (hlt h)
 ·obtain ⟨hv, he⟩ := (wat_par hPs h64 hV).1 h
  rw [anR_iff hPs]
  subst hPs
  have hc : Clo (edg Ps Ps.length 0) p v := .one he
  have := hlt hc
  exact (upE_mem h64 hv).2 ⟨by omega, .inr hc⟩
theorem nst_eq {st : List Int} (h012 : ∀ v, v < n → st.getD v 0 = 0 ∨ st.getD v 0 = 1 ∨ st.getD v 0 = 2) (hst : st.length = n) {v : Nat} (hv : v < n) : nst st v = st.getD v 0 := by
 have e : st.getD v 2 = st.getD v 0 := by
  rw [List.getD_eq_getElem?_getD, List.getD_eq_getElem?_getD, List.getElem?_eq_getElem (by omega)]; rfl
 unfold nst
 rw [e]
 rcases h012 v hv with h | h | h <;> rw [h] <;> decide
theorem sus_fil (hPs : Ps.length = n) (h64 : n ≤ 64) (hV : Valid Ps) (hlt : ∀ {a b : Nat}, Clo (edg Ps n 0) a b → a < b) {st : List Int} (h012 : ∀ v, v < n → st.getD v 0 = 0 ∨ st.getD v 0 = 1 ∨ st.getD v 0 = 2) (hst : st.length = n)
  (hI : Inh (anR n (ancW n (edg Ps n 0))) st) (v : Nat) (o : List Nat) (hv : v < n) (ho : ok1 n o) :
  fil n (vsF (anR n (ancW n (edg Ps n 0))) n (fun v => wat n (parW Ps) (v : Int)) st v (o, [])).1.2 = els (susW n (edg Ps n 0) (whr st 2).testBit v) := by
 have hG := gr_of hPs h64 hV hlt
 have hp : ∀ v, v < n → ∀ p ∈ wat n (parW Ps) (v : Int), p < n := fun v _ p hp => (hG.lt (hG.par hp)).1
 have hT : ∀ {a : Nat}, a < n → (whr st 2).testBit a = unN st a := fun {a} ha => by rw [whr2_bit (by omega), unN, nst_eq h012 hst ha]
 rw [susW, els_cw h64]
 unfold fil
 refine List.filter_congr fun u hu => ?_
 have hun := List.mem_range.1 hu
 rw [Bool.eq_iff_iff, decide_eq_true_eq, cl_iff]
 constructor
 ·intro hm
  refine (vis_sound (fun a b hab hua => fst_mem.2 ⟨((wat_par hPs h64 hV).1 hab).2, ?_⟩) _ _ _ u hm).resolve_left (by simp)
  rw [hT (hG.lt (hG.par hab)).1]; exact hua
 ·intro hc
  refine vis_all hp (fun o => hI.con o) (fun a b hab => ?_) hv ho (Nat.le_refl _) hc
  obtain ⟨h1, h2⟩ := fst_mem.1 hab
  have h3 := (whr_lt_of h2).1
  rw [hT (by omega)] at h2
  refine ⟨(wat_par hPs h64 hV).2 ⟨?_, h1⟩, h2⟩
  obtain ⟨w, hw, h4, _⟩ := edg_mem.1 h1
  simp only at h4
  omega
theorem scp_up (hPs : Ps.length = n) (h64 : n ≤ 64) {h : Nat} (hh : h < n) : scp (anR n (ancW n (edg Ps n 0))) n h = upE Ps h := by
 have e : ∀ u, anR n (ancW n (edg Ps n 0)) u h = decide (u ∈ upE Ps h) := fun u => by rw [Bool.eq_iff_iff, anR_iff hPs, decide_eq_true_eq]
 unfold scp
 subst hPs
 conv => rhs; rw [upE_eq h64 hh]
 refine List.filter_congr fun u hu => ?_
 have hun := List.mem_range.1 hu
 rw [e, Bool.eq_iff_iff, decide_eq_true_eq, upE_mem h64 hh]
 simp only [Bool.or_eq_true, decide_eq_true_eq, cl_iff]
 exact ⟨fun h => h.2, fun h => ⟨hun, h⟩⟩
theorem mnl_min (hPs : Ps.length = n) (h64 : n ≤ 64) (hV : Valid Ps) (hlt : ∀ {a b : Nat}, Clo (edg Ps n 0) a b → a < b) {st : List Int} (h012 : ∀ v, v < n → st.getD v 0 = 0 ∨ st.getD v 0 = 1 ∨ st.getD v 0 = 2) (hst : st.length = n) {v : Nat} (hv : v < n) :
  mnl (anR n (ancW n (edg Ps n 0))) n st v = ((aw1 n (edg Ps n 0) v &&& whr st 1) == 2 ^ v) := by
 have hG := gr_of hPs h64 hV hlt
 rw [Bool.eq_iff_iff, mnl_iff hG, beq_iff_eq]
 have e : ∀ u, anR n (ancW n (edg Ps n 0)) u v = true → u < n := fun u hu => (hG.lt hu).1
 have e2 : ∀ u, anR n (ancW n (edg Ps n 0)) u v = true ↔ u ∈ upE Ps v := fun u => anR_iff hPs
 have e3 := @nst_eq n st h012 hst
 subst hPs
 rw [← rmin_iff h64 hst hv, rmin, e3 hv]
 refine and_congr_right fun _ => ⟨fun h u hu hne hs => h u ((e2 u).2 hu) hne (by rw [e3 (e u ((e2 u).2 hu))]; exact hs), fun h u hu hne hs => h u ((e2 u).1 hu) hne (by rw [← e3 (e u hu)]; exact hs)⟩
/-- The search finds what versions blames. -/
theorem fnd_minL (hPs : Ps.length = n) (h64 : n ≤ 64) (hV : Valid Ps) (hlt : ∀ {a b : Nat}, Clo (edg Ps n 0) a b → a < b) {st : List Int} (h012 : ∀ v, v < n → st.getD v 0 = 0 ∨ st.getD v 0 = 1 ∨ st.getD v 0 = 2) (hst : st.length = n)
  (hI : Inh (anR n (ancW n (edg Ps n 0))) st) {h : Nat} (hh : h < n) :
  (fnd (anR n (ancW n (edg Ps n 0))) n (fun v => wat n (parW Ps) (v : Int)) st h (upE Ps h)).2 = true ∧
  (fnd (anR n (ancW n (edg Ps n 0))) n (fun v => wat n (parW Ps) (v : Int)) st h (upE Ps h)).1.2 = minL n (edg Ps n 0) st (upE Ps h) := by
 have hG := gr_of hPs h64 hV hlt
 have h1 := fnd_exact hG hI hh (sus_fil hPs h64 hV hlt h012 hst hI)
 rw [scp_up hPs h64 hh] at h1
 refine ⟨h1.1, h1.2.trans ?_⟩
 unfold minL
 congr 1
 refine List.filter_congr fun v hv => ?_
 have hvn : v < n := by
  have := (anR_iff hPs).2 hv
  exact (hG.lt this).1
 exact mnl_min hPs h64 hV hlt h012 hst hvn
end
end Go.Proofs.Ytkbkmngbenohkaa

namespace Go.Proofs.Ytkbkmngbenohkaa
open Go.RowKit

/-! ### Bounds -/
/-! ### Chains -/
def chM (n : Nat) : List (List Int) := (List.range n).map fun (v : Nat) => if v = 0 then ([] : List Int) else [(v : Int) - 1]
@[simp] theorem chM_len (n : Nat) : (chM n).length = n := by simp [chM]
theorem chM_get {n v : Nat} (h : v < n) : (chM n).getD v [] = if v = 0 then [] else [(v : Int) - 1] := by simp [chM, List.getD_eq_getElem?_getD, h]
theorem chM_succ (n : Nat) : chM (n + 1) = chM n ++ [if n = 0 then [] else [(n : Int) - 1]] := by simp [chM, List.range_succ]
theorem chain_spec (n : Nat) (hn : n ≤ 1000) : Spec Try.prog 77 (inSt [.v (.int .i64 (n : Int))] []) (outSt (.sl n (nrows (chM n))) []) := by
 refine Spec.ofN Try.func77 rfl Try.ntmps77 rfl ?_
 refine D_seq fun K1 hK1 => ?_
 refine D_region ?_
 refine DL_c (op_as _ (rfl : _ = AV.v (.slice _ _ _))) ?_
 refine DL_nil (hK1 _ ?_)
 clear hK1; try clear K1
 refine D_seq fun K2 hK2 => ?_
 refine D_region ?_
 refine DL_c (op_asN (3, 0) _ 29 1 rfl rfl) ?_
 refine DL_nil (hK2 _ ?_)
 clear hK2; try clear K2
 refine D_seq fun K3 hK3 => ?_
 refine D_seq fun K4 hK4 => ?_
 refine D_region ?_
 refine DL_c (op_as _ (rfl : _ = AV.v (.int _ _))) ?_
 refine DL_nil (hK4 _ ?_)
 clear hK4; try clear K4
 refine D_block ?_
 refine D_loopL (α := Nat) (fun v => v ≤ n) 23 [(0, _)] [] (fun v => [(4, .v (.int .i64 (v : Int))), (3, .ref (3, 0) 0 v)]) (fun v => [((3, 0), .row 29 1 (nrows (chM v)))]) [] [] (fun v => n - v) 0 ?_ (by
  refine Le.mkJ [] [] rfl ?_ ?_ trivial trivial ?_
  ·exact ⟨(iV rfl), (lvI (by rfl)), (lvRr rfl (by rfl)), trivial⟩
  ·exact ⟨(obR rfl rfl rfl (by rfl)), trivial⟩
  ·kernel_rfl) ?_
 ·omega
 intro v hv
 refine D_seq fun K5 hK5 => ?_
 refine D_seq fun K6 hK6 => ?_
 refine D_region ?_
 refine DL_c (op_mv _ (rfl : _ = AV.v (.int _ _))) ?_
 refine DL_c (op_mv _ (rfl : _ = AV.v (.int _ _))) ?_
 refine DL_c (op_lss _ _ rfl rfl rfl) ?_
 refine DL_nil (hK6 _ ?_)
 clear hK6; try clear K6
 refine D_splitC rfl (fun hc8 => ?_) (fun hc8 => ?_)
 ·skip
  refine D_skip (hK5 _ ?_)
  clear hK5; try clear K5
  refine D_seq fun K7 hK7 => ?_
  refine D_block ?_
  refine D_seq fun K8 hK8 => ?_
  refine D_region ?_
  refine DL_c (op_asN (5, 0) _ 3 1 rfl rfl) ?_
  refine DL_nil (hK8 _ ?_)
  clear hK8; try clear K8
  refine D_seq fun K9 hK9 => ?_
  refine D_seq fun K10 hK10 => ?_
  refine D_region ?_
  refine DL_c (op_mv _ (rfl : _ = AV.v (.int _ _))) ?_
  refine DL_c (op_gtr _ _ rfl rfl rfl) ?_
  refine DL_nil (hK10 _ ?_)
  clear hK10; try clear K10
  refine D_splitC rfl (fun hc12 => ?_) (fun hc12 => ?_)
  ·skip
   have hnx : nrows (chM (v + 1)) = nrows (chM v) ++ [.sl 1 (isl [(v : Int) - 1])] := by rw [chM_succ, if_neg (by omega)]; simp [nrows]
   refine D_region ?_
   refine DL_c (op_mv _ (rfl : _ = AV.ref _ _ _)) ?_
   refine DL_c (op_mv _ (rfl : _ = AV.v (.int _ _))) ?_
   refine DL_c (op_sub _ _ rfl rfl (i64w (by omega))) ?_
   refine DL_c (op_bsF _ _ inferInstance rfl (by rfl) (by simp <;> rfl) (by decide) rfl) ?_
   refine DL_c (op_ap (17, 0) _ _ inferInstance rfl rfl (by rfl) (by (refine .sl ?_; (simp [isl]; done))) (by omega) rfl (rfl) (rfl)) ?_
   refine DL_c (op_as _ (rfl : _ = AV.ref _ _ _)) ?_
   refine DL_nil (hK9 _ ?_)
   clear hK9; try clear K9
   refine D_le (Le.frzS (ys := isl [(v : Int) - 1]) 5 rfl rfl rfl (by rfl) (by simp)) ?_
   refine D_region ?_
   refine DL_c (op_mv _ (rfl : _ = AV.ref _ _ _)) ?_
   refine DL_c (op_mv _ (rfl : _ = AV.sl _ _)) ?_
   refine DL_c (op_bsF _ _ inferInstance rfl (by rfl) (by simp <;> rfl) (by decide) rfl) ?_
   refine DL_c (op_ap (21, 0) _ _ inferInstance rfl rfl (by (simp; done)) (by (refine .sl ?_; (simp [isl]; done))) (by omega) rfl (rfl) (rfl)) ?_
   refine DL_c (op_as _ (rfl : _ = AV.ref _ _ _)) ?_
   refine DL_nil (hK7 _ ?_)
   clear hK7; try clear K7
   refine D_le (σ' := mkStI 23 [(0, _), (3, _), (4, _)] [((21, 0), _)] [] []) (by
    refine Le.mkJ [] [] rfl ?_ ?_ trivial trivial ?_
    ·exact ⟨(iV rfl), (iR rfl), (iV rfl), trivial⟩
    ·exact ⟨(obE rfl rfl rfl), trivial⟩
    ·kernel_rfl) ?_
   refine D_region ?_
   refine DL_c (op_mv _ (rfl : _ = AV.v (.int _ _))) ?_
   refine DL_c (op_add _ _ rfl rfl (i64w (by omega))) ?_
   refine DL_c (op_as _ (rfl : _ = AV.v (.int _ _))) ?_
   refine DL_nil ?_
   refine ⟨v + 1, ?_, ?_, ?_⟩
   ·omega
   ·skip
    refine Le.mkJ [((3, 0), (21, 0))] [] rfl ?_ ?_ trivial trivial ?_
    ·exact ⟨(by repeat' (exact Lv.v)), (lvI (by rfl)), (lvRr rfl (by rfl)), trivial⟩
    ·exact ⟨(obR rfl rfl rfl (by rw [hnx])), trivial⟩
    ·kernel_rfl
   ·omega
  ·skip
   have hnx : nrows (chM (v + 1)) = nrows (chM v) ++ [.sl 0 (isl [])] := by rw [chM_succ, if_pos (by omega)]; simp [nrows]
   refine D_skip (hK9 _ ?_)
   clear hK9; try clear K9
   refine D_le (Le.frzS (ys := isl []) 5 rfl rfl rfl (by rfl) (by simp)) ?_
   refine D_region ?_
   refine DL_c (op_mv _ (rfl : _ = AV.ref _ _ _)) ?_
   refine DL_c (op_mv _ (rfl : _ = AV.sl _ _)) ?_
   refine DL_c (op_bsF _ _ inferInstance rfl (by rfl) (by simp <;> rfl) (by decide) rfl) ?_
   refine DL_c (op_ap (21, 0) _ _ inferInstance rfl rfl (by (simp; done)) (by (refine .sl ?_; (simp [isl]; done))) (by omega) rfl (rfl) (rfl)) ?_
   refine DL_c (op_as _ (rfl : _ = AV.ref _ _ _)) ?_
   refine DL_nil (hK7 _ ?_)
   clear hK7; try clear K7
   refine D_region ?_
   refine DL_c (op_mv _ (rfl : _ = AV.v (.int _ _))) ?_
   refine DL_c (op_add _ _ rfl rfl (i64w (by omega))) ?_
   refine DL_c (op_as _ (rfl : _ = AV.v (.int _ _))) ?_
   refine DL_nil ?_
   refine ⟨v + 1, ?_, ?_, ?_⟩
   ·omega
   ·skip
    refine Le.mkJ [((3, 0), (21, 0))] [] rfl ?_ ?_ trivial trivial ?_
    ·exact ⟨(by repeat' (exact Lv.v)), (lvI (by rfl)), (lvRr rfl (by rfl)), trivial⟩
    ·exact ⟨(obR rfl rfl rfl (by rw [hnx])), trivial⟩
    ·kernel_rfl
   ·omega
 ·skip
  refine D_exit ?_
  refine id (hK3 _ ?_)
  clear hK3; try clear K3
  refine D_seq fun K11 hK11 => ?_
  refine D_region ?_
  refine DL_c (op_mv _ (rfl : _ = AV.ref _ _ _)) ?_
  refine DL_c (op_as _ (rfl : _ = AV.ref _ _ _)) ?_
  refine DL_nil (hK11 _ ?_)
  clear hK11; try clear K11
  refine D_ret ?_
  obtain rfl : v = n := by omega
  exact ret1 (.inr rfl) rfl (.tmp (rfl : _ = AV.ref _ _ _)) (Le.out [] [(3, 0)] (frz0 rfl rfl (by simp) rfl) rfl rfl rfl ⟨rfl, trivial⟩ trivial)
theorem chM_edg {n a b : Nat} : ((a : Int), (b : Int)) ∈ edg (chM n) n 0 ↔ b < n ∧ a + 1 = b := by
 rw [edg_mem]
 constructor
 ·rintro ⟨v, hv, h1, h2⟩
  rw [chM_get hv] at h2
  simp only at h1 h2
  split at h2
  ·simp at h2
  ·simp at h2; omega
 ·rintro ⟨h1, h2⟩
  refine ⟨b, h1, rfl, ?_⟩
  rw [chM_get h1, if_neg (by omega)]
  simp; omega
theorem chM_valid (n : Nat) : Valid (chM n) := by
 intro v hv
 rw [chM_len] at hv
 rw [chM_get hv, chM_len]
 split
 ·exact ⟨List.nodup_nil, fun p hp => by simp at hp⟩
 ·exact ⟨by simp, fun p hp => by simp at hp; omega⟩
theorem chM_clo {n a b : Nat} : Clo (edg (chM n) n 0) a b ↔ a < b ∧ b < n := by
 constructor
 ·intro h
  induction h with
  | one h => have := chM_edg.1 h; omega
  | more h _ ih => have := chM_edg.1 h; omega
 ·rintro ⟨h1, h2⟩
  obtain ⟨d, rfl⟩ : ∃ d, b = a + d + 1 := ⟨b - a - 1, by omega⟩
  induction d generalizing a with
  | zero => exact .one (chM_edg.2 ⟨h2, rfl⟩)
  | succ d ih => exact .more (chM_edg.2 ⟨by omega, rfl⟩ : ((a : Int), ((a + 1 : Nat) : Int)) ∈ _) (by
    have := ih (a := a + 1) (by omega) (by omega)
    rwa [show a + 1 + d + 1 = a + (d + 1) + 1 by omega] at this)
theorem chM_lt {n a b : Nat} (h : Clo (edg (chM n) n 0) a b) : a < b := (chM_clo.1 h).1
theorem chM_acyc (n : Nat) : ¬ ∃ a, a < (chM n).length ∧ Clo (edg (chM n) (chM n).length 0) a a := fun ⟨a, _, h⟩ => by
 rw [chM_len] at h; exact Nat.lt_irrefl _ (chM_lt h)
theorem chM_R {n : Nat} (hn : n ≤ 64) (a v : Nat) : anR n (ancW n (edg (chM n) n 0)) a v = (decide (a ≤ v) && decide (v < n)) := by
 rw [Bool.eq_iff_iff, anR_iff (chM_len n), Bool.and_eq_true, decide_eq_true_eq, decide_eq_true_eq]
 constructor
 ·intro h
  have hv := upE_out (chM_len n) h
  have h2 := (upE_mem (by rw [chM_len]; exact hn) (by rw [chM_len]; exact hv)).1 h
  rw [chM_len, chM_clo] at h2
  omega
 ·rintro ⟨h1, h2⟩
  refine (upE_mem (by rw [chM_len]; exact hn) (by rw [chM_len]; exact h2)).2 ?_
  rw [chM_len, chM_clo]
  omega
theorem chM_up {n h : Nat} (hn : n ≤ 64) (hh : h < n) : upE (chM n) h = List.range (h + 1) := by
 rw [← scp_up (chM_len n) hn hh]
 unfold scp
 obtain ⟨d, rfl⟩ : ∃ d, n = (h + 1) + d := ⟨n - (h + 1), by omega⟩
 rw [List.range_add, List.filter_append, List.filter_eq_self.2, List.filter_eq_nil_iff.2, List.append_nil]
 ·intro u hu
  rw [List.mem_map] at hu
  obtain ⟨x, _, rfl⟩ := hu
  rw [chM_R hn]; simp; omega
 ·intro u hu
  have := List.mem_range.1 hu
  rw [chM_R hn]; simp; omega
theorem newC_spec (n : Nat) (hn : n ≤ 64) : Spec Try.prog 58 (inSt [.sl n (nrows (chM n))] []) (outSt (.tup [.fp 0 (gra n (parW (chM n)) (ancW n (edg (chM n) n 0))), .v (.int .i64 0)]) []) := by
 have hN := vnew_spec n (chM n) (chM_len n) (by omega) (fun v => by
  by_cases hv : v < n
  ·rw [chM_get hv]; split <;> simp
  ·rw [List.getD_eq_getElem?_getD, List.getElem?_eq_none (by rw [chM_len]; omega)]; simp) fun hV _ a _ => by
  have := nxt_edg (Ps := chM n) a n fun v hv => (hV v (by rw [chM_len]; exact hv)).1
  rw [this, List.length_map]
  exact Nat.le_trans (filter_few (a := a) (m := 1) _ fun v hp => by
   rw [decide_eq_true_eq] at hp
   by_cases hv : v < n
   ·rw [chM_get hv] at hp
    split at hp
    ·simp at hp
    ·simp at hp; omega
   ·rw [List.getD_eq_getElem?_getD, List.getElem?_eq_none (by rw [chM_len]; omega)] at hp; simp at hp) (by decide)
 rw [newV_ok (by rw [chM_len]; omega) (chM_valid n) (chM_acyc n), chM_len] at hN
 exact hN
theorem same33_spec (n m : Nat) (L M : List (Nat × List Nat)) (hL : L.length = n) (hM : M.length = m) (h1 : n ≤ 1000) (h2 : m ≤ 1000) (h3 : ∀ i, (L.getD i (0, [])).2.length ≤ 1000) (h4 : ∀ i, (M.getD i (0, [])).2.length ≤ 1000) :
  Spec Try.prog 75 (inSt [.sl n (blR L), .sl m (blR M)] []) (outSt (.v (.bool (decide (L = M)))) []) := by
 subst hL; subst hM
 refine Spec.ofN Try.func75 rfl Try.ntmps75 rfl ?_
 refine D_seq fun K1 hK1 => ?_
 refine D_region ?_
 refine DL_c (op_as _ (rfl : _ = AV.v (.bool _))) ?_
 refine DL_nil (hK1 _ ?_)
 clear hK1; try clear K1
 refine D_seq fun K2 hK2 => ?_
 refine D_seq fun K3 hK3 => ?_
 refine D_region ?_
 refine DL_c (op_mv _ (rfl : _ = AV.sl _ _)) ?_
 refine DL_c (op_lenS _ inferInstance rfl) ?_
 refine DL_c (op_mv _ (rfl : _ = AV.sl _ _)) ?_
 refine DL_c (op_lenS _ inferInstance rfl) ?_
 refine DL_c (op_neq _ _ rfl rfl rfl) ?_
 refine DL_nil (hK3 _ ?_)
 clear hK3; try clear K3
 refine D_splitC rfl (fun hc10 => ?_) (fun hc10 => ?_)
 ·skip
  refine D_seq fun K4 hK4 => ?_
  refine D_region ?_
  refine DL_c (op_as _ (rfl : _ = AV.v (.bool _))) ?_
  refine DL_nil (hK4 _ ?_)
  clear hK4; try clear K4
  refine D_ret ?_
  refine ret1 (.inr rfl) rfl (.tmp (rfl : _ = AV.v (.bool _))) (Le.out [] [] (lvB ?_) rfl rfl rfl trivial trivial)
  exact decide_eq_false fun h => by subst h; omega
 ·skip
  refine D_skip (hK2 _ ?_)
  clear hK2; try clear K2
  refine D_seq fun K5 hK5 => ?_
  refine D_seq fun K6 hK6 => ?_
  refine D_region ?_
  refine DL_c (op_as _ (rfl : _ = AV.v (.int _ _))) ?_
  refine DL_nil (hK6 _ ?_)
  clear hK6; try clear K6
  refine D_block ?_
  refine D_loopL (α := Nat) (fun k => k ≤ L.length ∧ L.length = M.length ∧ L.take k = M.take k) 42 [(0, _), (1, _)] [] (fun k => [(5, .v (.int .i64 (k : Int)))]) (fun k => []) [] [] (fun k => L.length - k) 0 ?_ (by
   refine Le.mkJ [] [] rfl ?_ ?_ trivial trivial ?_
   ·exact ⟨(iS rfl), (iS rfl), (lvI (by rfl)), trivial⟩
   ·exact trivial
   ·kernel_rfl) ?_
  ·exact ⟨by omega, by omega, rfl⟩
  intro k hk
  obtain ⟨hk, hl, ht⟩ := hk
  refine D_seq fun K7 hK7 => ?_
  refine D_seq fun K8 hK8 => ?_
  refine D_region ?_
  refine DL_c (op_mv _ (rfl : _ = AV.v (.int _ _))) ?_
  refine DL_c (op_mv _ (rfl : _ = AV.sl _ _)) ?_
  refine DL_c (op_lenS _ inferInstance rfl) ?_
  refine DL_c (op_lss _ _ rfl rfl rfl) ?_
  refine DL_nil (hK8 _ ?_)
  clear hK8; try clear K8
  refine D_splitC rfl (fun hc14 => ?_) (fun hc14 => ?_)
  ·skip
   have hkx : k < L.length := by omega
   have hky : k < M.length := by omega
   have h3k := h3 k
   have h4k := h4 k
   refine D_skip (hK7 _ ?_)
   clear hK7; try clear K7
   refine D_seq fun K9 hK9 => ?_
   refine D_block ?_
   refine D_seq fun K10 hK10 => ?_
   refine D_le (σ' := mkStI 42 [(0, _), (1, _), (5, _)] [] [] []) (by
    refine Le.mkJ [] [] rfl ?_ ?_ trivial trivial ?_
    ·exact ⟨(iS rfl), (iS rfl), (iV rfl), trivial⟩
    ·exact trivial
    ·kernel_rfl) ?_
   refine D_anyL 25 [17, 18, 19, 20, 21, 22, 23, 24, 25, 26, 27, 28, 29, 30, 31, 32, 33, 34, 35, 36, 37, 38, 39, 40, 41] [] (by kernel_rfl) (by kernel_rfl) rfl (nodupO_iff rfl) (rfl : _ = [_, _, _, _, _, _, _, _, _, _, _, _, _, _, _, _, _, _, _, _, _, _, _, _, _]) (rfl : _ = []) ?_
   refine any_c (_, []) (fun τ => op_mv _ (rfl : _ = AV.sl _ _)) ?_
   refine any_n (rfl : _ = [_]) ?_
   refine any_c (_, []) (fun τ => op_mv _ (rfl : _ = AV.v (.int _ _))) ?_
   refine any_n (rfl : _ = [_, _]) ?_
   refine any_c (_, []) (fun τ => op_ixS _ _ inferInstance rfl rfl _ rfl (by omega) (by (simp only [isl_len, bsl_len, psl_len, mrows_len, nsl_len, ws_len, List.length_map, ul_len, psl_len, isl_len, nrows_len, mmap_len, smap_len, dcl_len, blR_len]; omega)) (by rfl)) ?_
   refine any_n (rfl : _ = [_, _, _]) ?_
   refine any_c (_, []) (fun τ => op_fldF _ inferInstance rfl rfl) ?_
   refine any_n (rfl : _ = [_, _, _, _]) ?_
   refine any_c (_, []) (fun τ => op_ldF _ inferInstance rfl (by exact blR_get0 _ _ (by omega)) rfl) ?_
   refine any_n (rfl : _ = [_, _, _, _, _]) ?_
   refine any_c (_, []) (fun τ => op_mv _ (rfl : _ = AV.sl _ _)) ?_
   refine any_n (rfl : _ = [_, _, _, _, _, _]) ?_
   refine any_c (_, []) (fun τ => op_mv _ (rfl : _ = AV.v (.int _ _))) ?_
   refine any_n (rfl : _ = [_, _, _, _, _, _, _]) ?_
   refine any_c (_, []) (fun τ => op_ixS _ _ inferInstance rfl rfl _ rfl (by omega) (by (simp only [isl_len, bsl_len, psl_len, mrows_len, nsl_len, ws_len, List.length_map, ul_len, psl_len, isl_len, nrows_len, mmap_len, smap_len, dcl_len, blR_len]; omega)) (by rfl)) ?_
   refine any_n (rfl : _ = [_, _, _, _, _, _, _, _]) ?_
   refine any_c (_, []) (fun τ => op_fldF _ inferInstance rfl rfl) ?_
   refine any_n (rfl : _ = [_, _, _, _, _, _, _, _, _]) ?_
   refine any_c (_, []) (fun τ => op_ldF _ inferInstance rfl (by exact blR_get0 _ _ (by omega)) rfl) ?_
   refine any_n (rfl : _ = [_, _, _, _, _, _, _, _, _, _]) ?_
   refine any_c (_, []) (fun τ => op_neq _ _ rfl rfl rfl) ?_
   refine any_n (rfl : _ = [_, _, _, _, _, _, _, _, _, _, _]) ?_
   refine any_c (_, []) (fun τ => op_mv _ (rfl : _ = AV.v (.bool _))) ?_
   refine any_caseC (fun hg28 => ?_) (fun hg28 => ?_)
   ·skip
    refine any_n (rfl : _ = [_, _, _, _, _, _, _, _, _, _, _, _]) ?_
    refine any_cn rfl (fun τ => rfl) (by decide) ?_
    refine any_n (rfl : _ = [_, _, _, _, _, _, _, _, _, _, _, _, _]) ?_
    refine any_cn rfl (fun τ => rfl) (by decide) ?_
    refine any_n (rfl : _ = [_, _, _, _, _, _, _, _, _, _, _, _, _, _]) ?_
    refine any_cn rfl (fun τ => rfl) (by decide) ?_
    refine any_n (rfl : _ = [_, _, _, _, _, _, _, _, _, _, _, _, _, _, _]) ?_
    refine any_cn rfl (fun τ => rfl) (by decide) ?_
    refine any_n (rfl : _ = [_, _, _, _, _, _, _, _, _, _, _, _, _, _, _, _]) ?_
    refine any_cn rfl (fun τ => rfl) (by decide) ?_
    refine any_n (rfl : _ = [_, _, _, _, _, _, _, _, _, _, _, _, _, _, _, _, _]) ?_
    refine any_cn rfl (fun τ => rfl) (by decide) ?_
    refine any_n (rfl : _ = [_, _, _, _, _, _, _, _, _, _, _, _, _, _, _, _, _, _]) ?_
    refine any_cn rfl (fun τ => rfl) (by decide) ?_
    refine any_n (rfl : _ = [_, _, _, _, _, _, _, _, _, _, _, _, _, _, _, _, _, _, _]) ?_
    refine any_cn rfl (fun τ => rfl) (by decide) ?_
    refine any_n (rfl : _ = [_, _, _, _, _, _, _, _, _, _, _, _, _, _, _, _, _, _, _, _]) ?_
    refine any_cn rfl (fun τ => rfl) (by decide) ?_
    refine any_n (rfl : _ = [_, _, _, _, _, _, _, _, _, _, _, _, _, _, _, _, _, _, _, _, _]) ?_
    refine any_cn rfl (fun τ => rfl) (by decide) ?_
    refine any_n (rfl : _ = [_, _, _, _, _, _, _, _, _, _, _, _, _, _, _, _, _, _, _, _, _, _]) ?_
    refine any_cn rfl (fun τ => rfl) (by decide) ?_
    refine any_n (rfl : _ = [_, _, _, _, _, _, _, _, _, _, _, _, _, _, _, _, _, _, _, _, _, _, _]) ?_
    refine any_cn rfl (fun τ => rfl) (by decide) ?_
    refine any_n (rfl : _ = [_, _, _, _, _, _, _, _, _, _, _, _, _, _, _, _, _, _, _, _, _, _, _, _]) ?_
    refine any_c (_, []) (fun τ => op_pick _ _ _ rfl (rfl : _ = AV.v (.bool _))) ?_
    refine any_n (rfl : _ = [_, _, _, _, _, _, _, _, _, _, _, _, _, _, _, _, _, _, _, _, _, _, _, _, _]) ?_
    refine any_end ⟨rfl, ?_⟩
    refine DL_nil (hK10 _ ?_)
    clear hK10; try clear K10
    refine D_cT rfl rfl ?_
    refine D_seq fun K11 hK11 => ?_
    refine D_le (σ' := mkStI 42 [] [] [] []) (by
     refine Le.mkJ [] [] rfl ?_ ?_ trivial trivial ?_
     ·exact trivial
     ·exact trivial
     ·kernel_rfl) ?_
    refine D_region ?_
    refine DL_c (op_as _ (rfl : _ = AV.v (.bool _))) ?_
    refine DL_nil (hK11 _ ?_)
    clear hK11; try clear K11
    refine D_ret ?_
    refine ret1 (.inr rfl) rfl (.tmp (rfl : _ = AV.v (.bool _))) (Le.out [] [] (lvB ?_) rfl rfl rfl trivial trivial)
    exact decide_eq_false fun h => by subst h; exact hg28 rfl
   ·skip
    refine any_n (rfl : _ = [_, _, _, _, _, _, _, _, _, _, _, _]) ?_
    refine any_cy (_, []) rfl (fun τ => rfl) (fun τ => op_mv _ (rfl : _ = AV.sl _ _)) ?_
    refine any_n (rfl : _ = [_, _, _, _, _, _, _, _, _, _, _, _, _]) ?_
    refine any_cy (_, []) rfl (fun τ => rfl) (fun τ => op_mv _ (rfl : _ = AV.v (.int _ _))) ?_
    refine any_n (rfl : _ = [_, _, _, _, _, _, _, _, _, _, _, _, _, _]) ?_
    refine any_cy (_, []) rfl (fun τ => rfl) (fun τ => op_ixS _ _ inferInstance rfl rfl _ rfl (by omega) (by (simp only [isl_len, bsl_len, psl_len, mrows_len, nsl_len, ws_len, List.length_map, ul_len, psl_len, isl_len, nrows_len, mmap_len, smap_len, dcl_len, blR_len]; omega)) (by rfl)) ?_
    refine any_n (rfl : _ = [_, _, _, _, _, _, _, _, _, _, _, _, _, _, _]) ?_
    refine any_cy (_, []) rfl (fun τ => rfl) (fun τ => op_fldF _ inferInstance rfl rfl) ?_
    refine any_n (rfl : _ = [_, _, _, _, _, _, _, _, _, _, _, _, _, _, _, _]) ?_
    refine any_cy (_, []) rfl (fun τ => rfl) (fun τ => op_ldF _ inferInstance rfl (by exact blR_get1 _ _ (by omega)) rfl) ?_
    refine any_n (rfl : _ = [_, _, _, _, _, _, _, _, _, _, _, _, _, _, _, _, _]) ?_
    refine any_cy (_, []) rfl (fun τ => rfl) (fun τ => op_mv _ (rfl : _ = AV.sl _ _)) ?_
    refine any_n (rfl : _ = [_, _, _, _, _, _, _, _, _, _, _, _, _, _, _, _, _, _]) ?_
    refine any_cy (_, []) rfl (fun τ => rfl) (fun τ => op_mv _ (rfl : _ = AV.v (.int _ _))) ?_
    refine any_n (rfl : _ = [_, _, _, _, _, _, _, _, _, _, _, _, _, _, _, _, _, _, _]) ?_
    refine any_cy (_, []) rfl (fun τ => rfl) (fun τ => op_ixS _ _ inferInstance rfl rfl _ rfl (by omega) (by (simp only [isl_len, bsl_len, psl_len, mrows_len, nsl_len, ws_len, List.length_map, ul_len, psl_len, isl_len, nrows_len, mmap_len, smap_len, dcl_len, blR_len]; omega)) (by rfl)) ?_
    refine any_n (rfl : _ = [_, _, _, _, _, _, _, _, _, _, _, _, _, _, _, _, _, _, _, _]) ?_
    refine any_cy (_, []) rfl (fun τ => rfl) (fun τ => op_fldF _ inferInstance rfl rfl) ?_
    refine any_n (rfl : _ = [_, _, _, _, _, _, _, _, _, _, _, _, _, _, _, _, _, _, _, _, _]) ?_
    refine any_cy (_, []) rfl (fun τ => rfl) (fun τ => op_ldF _ inferInstance rfl (by exact blR_get1 _ _ (by omega)) rfl) ?_
    refine any_n (rfl : _ = [_, _, _, _, _, _, _, _, _, _, _, _, _, _, _, _, _, _, _, _, _, _]) ?_
    refine any_cy (_, []) rfl (fun τ => rfl) (fun τ => (op_callH inferInstance (by repeat' (first | exact argsLv_nil | refine argsLv_cons ?_ ?_ | exact Lv.sl)) (same_spec _ _ ((L.getD k (0, [])).2.map fun (x : Nat) => (x : Int)) ((M.getD k (0, [])).2.map fun (x : Nat) => (x : Int)) (by simp) (by simp) (by omega) (by omega)) rfl rfl)) ?_
    refine any_n (rfl : _ = [_, _, _, _, _, _, _, _, _, _, _, _, _, _, _, _, _, _, _, _, _, _, _]) ?_
    refine any_cy (_, []) rfl (fun τ => rfl) (fun τ => op_not _ rfl rfl) ?_
    refine any_n (rfl : _ = [_, _, _, _, _, _, _, _, _, _, _, _, _, _, _, _, _, _, _, _, _, _, _, _]) ?_
    refine any_c (_, []) (fun τ => op_pick _ _ _ rfl (rfl : _ = AV.v (.bool _))) ?_
    refine any_n (rfl : _ = [_, _, _, _, _, _, _, _, _, _, _, _, _, _, _, _, _, _, _, _, _, _, _, _, _]) ?_
    refine any_end ⟨rfl, ?_⟩
    refine DL_nil (hK10 _ ?_)
    clear hK10; try clear K10
    refine D_splitC rfl (fun hc41 => ?_) (fun hc41 => ?_)
    ·skip
     refine D_seq fun K12 hK12 => ?_
     refine D_le (σ' := mkStI 42 [] [] [] []) (by
      refine Le.mkJ [] [] rfl ?_ ?_ trivial trivial ?_
      ·exact trivial
      ·exact trivial
      ·kernel_rfl) ?_
     refine D_region ?_
     refine DL_c (op_as _ (rfl : _ = AV.v (.bool _))) ?_
     refine DL_nil (hK12 _ ?_)
     clear hK12; try clear K12
     refine D_ret ?_
     refine ret1 (.inr rfl) rfl (.tmp (rfl : _ = AV.v (.bool _))) (Le.out [] [] (lvB ?_) rfl rfl rfl trivial trivial)
     exact decide_eq_false fun h => by subst h; exact hc41 rfl
    ·skip
     have hek : L.getD k (0, []) = M.getD k (0, []) := Prod.ext (by omega) (cast_inj.1 hc41)
     refine D_skip (hK9 _ ?_)
     clear hK9; try clear K9
     refine D_le (σ' := mkStI 42 [(0, _), (1, _), (5, _)] [] [] []) (by
      refine Le.mkJ [] [] rfl ?_ ?_ trivial trivial ?_
      ·exact ⟨(iS rfl), (iS rfl), (iV rfl), trivial⟩
      ·exact trivial
      ·kernel_rfl) ?_
     refine D_region ?_
     refine DL_c (op_mv _ (rfl : _ = AV.v (.int _ _))) ?_
     refine DL_c (op_add _ _ rfl rfl (i64w (by omega))) ?_
     refine DL_c (op_as _ (rfl : _ = AV.v (.int _ _))) ?_
     refine DL_nil ?_
     refine ⟨k + 1, ?_, ?_, ?_⟩
     ·exact ⟨by omega, hl, by rw [take1 (0, []) hkx, take1 (0, []) hky, ht, hek]⟩
     ·skip
      refine Le.mkJ [] [] rfl ?_ ?_ trivial trivial ?_
      ·exact ⟨(iS rfl), (iS rfl), (lvI (by rfl)), trivial⟩
      ·exact trivial
      ·kernel_rfl
     ·omega
  ·skip
   refine D_exit ?_
   refine id (hK5 _ ?_)
   clear hK5; try clear K5
   refine D_seq fun K13 hK13 => ?_
   refine D_region ?_
   refine DL_c (op_as _ (rfl : _ = AV.v (.bool _))) ?_
   refine DL_nil (hK13 _ ?_)
   clear hK13; try clear K13
   refine D_ret ?_
   refine ret1 (.inr rfl) rfl (.tmp (rfl : _ = AV.v (.bool _))) (Le.out [] [] (lvB ?_) rfl rfl rfl trivial trivial)
   rw [List.take_of_length_le (by omega), List.take_of_length_le (by omega)] at ht; exact decide_eq_true ht
/-! ### The documented example -/
theorem fnd4 : fnd (fun a v => decide (a ≤ v) && decide (v < 4)) 4 (fun v => wat 4 (parW (chM 4)) (v : Int)) [0, 0, 1, 1] 3 [0, 1, 2, 3] = (([3, 1, 2], [(2, [])]), true) := by decide
end Go.Proofs.Ytkbkmngbenohkaa

namespace Go.Proofs.Ytkbkmngbenohkaa
open Go.RowKit

/-- What is known of a graph, as the search takes it. -/
theorem findG_spec {n : Nat} {Ps : List (List Int)} (hPs : Ps.length = n) (h64 : n ≤ 64) (hV : Valid Ps) (hlt : ∀ {a b : Nat}, Clo (edg Ps n 0) a b → a < b) (st : List Int) (h1 : st.length ≤ 4611686018427387904) (h : Nat) (hh : h < n) (hs : nst st h = 1) :
  Spec Try.prog 72 (inStI [.fp 0 (gra n (parW Ps) (ancW n (edg Ps n 0))), .v (.int .i64 (h : Int)), .fn (.func 73) [.ptr (3, 9) 0] []] [((3, 9), .box 93 [.sl st.length (isl st), .v (.slice none 0 0)])])
   (fOut st (fnd (anR n (ancW n (edg Ps n 0))) n (fun v => wat n (parW Ps) (v : Int)) st h (upE Ps h))) := by
 have hG := gr_of hPs h64 hV hlt
 subst hPs
 have hu : wat Ps.length (ancW Ps.length (edg Ps Ps.length 0)) (h : Int) = upE Ps h := rfl
 have := find_spec Ps.length (parW Ps) (ancW Ps.length (edg Ps Ps.length 0)) (parW_len Ps) (ancW_len _ _) h64 (parW_lt hV h64) (ancW_lt h64 _) (fun v p hp => (hG.lt (hG.par hp)).1) st h1 h hh hs
  (by rw [hu]; exact (upE_mem h64 hh).2 ⟨hh, .inl rfl⟩) (fun v hv => by rw [hu] at hv; exact ((upE_mem h64 hh).1 hv).1)
 rw [hu] at this
 exact this
theorem findGv_spec {n : Nat} {Ps : List (List Int)} (hPs : Ps.length = n) (h64 : n ≤ 64) (hV : Valid Ps) (hlt : ∀ {a b : Nat}, Clo (edg Ps n 0) a b → a < b) (st : List Int) (h1 : st.length ≤ 4611686018427387904) (h : Nat) (hh : h < n) (hs : nst st h ≠ 1) :
  Spec Try.prog 72 (inStI [.fp 0 (gra n (parW Ps) (ancW n (edg Ps n 0))), .v (.int .i64 (h : Int)), .fn (.func 73) [.ptr (3, 9) 0] []] [((3, 9), .box 93 [.sl st.length (isl st), .v (.slice none 0 0)])])
   (outStI (.tup [.v (.slice none 0 0), .v (.slice none 0 0), .v (.int .i64 41)]) [((3, 9), .box 93 [.sl st.length (isl st), .ref (4, 8) 0 [h].length]), ((4, 8), .row 3 1 (nsl [h]))] [(3, 9)] [(3, 9)]) := by
 have hG := gr_of hPs h64 hV hlt
 subst hPs
 exact find_ver Ps.length (parW Ps) (ancW Ps.length (edg Ps Ps.length 0)) (parW_len Ps) (ancW_len _ _) h64 (parW_lt hV h64) (ancW_lt h64 _) (fun v p hp => (hG.lt (hG.par hp)).1) st h1 h hh hs
theorem bl_one (x : Nat × List Nat) (h : x.2.length ≤ 1000) (i : Nat) : ([x].getD i (0, [])).2.length ≤ 1000 := by
 cases i with
 | zero => exact h
 | succ i => simp
theorem lives33_spec : Spec Try.prog 76 (inSt [] []) (outSt (.v (.bool true)) []) := by
 have hC := chain_spec 4 (by decide)
 have hN := newC_spec 4 (by decide)
 have hF := findG_spec (chM_len 4) (by decide) (chM_valid 4) chM_lt [0, 0, 1, 1] (by decide) 3 (by decide) (by decide)
 have hRf : anR 4 (ancW 4 (edg (chM 4) 4 0)) = fun a v => decide (a ≤ v) && decide (v < 4) := funext fun a => funext fun v => chM_R (by decide) a v
 rw [hRf, chM_up (by decide) (by decide), show List.range (3 + 1) = [0, 1, 2, 3] from rfl, fnd4] at hF
 have hF : Spec Try.prog 72 (inStI [.fp 0 (gra 4 (parW (chM 4)) (ancW 4 (edg (chM 4) 4 0))), .v (.int .i64 3), .fn (.func 73) [.ptr (3, 9) 0] []] [((3, 9), .box 93 [.sl 4 (isl [0, 0, 1, 1]), .v (.slice none 0 0)])])
   (outStI (.tup [.ref (0, 8) 0 1, .ref (2, 8) 0 3, .v (.int .i64 0)]) [((3, 9), .box 93 [.sl 4 (isl [0, 0, 1, 1]), .ref (4, 8) 0 3]), ((4, 8), .row 3 1 (nsl [3, 1, 2])), ((0, 8), .row 75 2 (blR [(2, [])])), ((2, 8), .row 3 1 (nsl [3, 1, 2]))] [(3, 9)] [(3, 9)]) := hF
 have hS := same33_spec 1 1 [(2, [])] [(2, [])] rfl rfl (by decide) (by decide) (bl_one _ (by decide)) (bl_one _ (by decide))
 have hO := same_spec 3 3 [3, 1, 2] [3, 1, 2] rfl rfl (by decide) (by decide)
 generalize ancW 4 (edg (chM 4) 4 0) = A at *
 generalize parW (chM 4) = P at *
 refine Spec.ofN Try.func76 rfl Try.ntmps76 rfl ?_
 refine D_seq fun K1 hK1 => ?_
 refine D_region ?_
 refine DL_c (op_as _ (rfl : _ = AV.v (.bool _))) ?_
 refine DL_nil (hK1 _ ?_)
 clear hK1; try clear K1
 refine D_seq fun K2 hK2 => ?_
 refine D_region ?_
 refine DL_c (op_callH inferInstance (by repeat' (first | exact argsLv_nil | refine argsLv_cons ?_ ?_ | exact Lv.v)) (hC) rfl rfl) ?_
 refine DL_c (op_callH inferInstance (by repeat' (first | exact argsLv_nil | refine argsLv_cons ?_ ?_ | exact Lv.sl)) (hN) rfl rfl) ?_
 refine DL_c (op_mv _ (rfl : _ = AV.tup _)) ?_
 refine DL_c (op_ext _ rfl (rfl : _ = some (AV.fp _ _))) ?_
 refine DL_c (op_ext _ rfl (rfl : _ = some (AV.v (.int _ _)))) ?_
 refine DL_c (op_as _ (rfl : _ = AV.fp _ _)) ?_
 refine DL_c (op_as _ (rfl : _ = AV.v (.int _ _))) ?_
 refine DL_nil (hK2 _ ?_)
 clear hK2; try clear K2
 refine D_seq fun K3 hK3 => ?_
 refine D_seq fun K4 hK4 => ?_
 refine D_region ?_
 refine DL_c (op_mv _ (rfl : _ = AV.fp _ _)) ?_
 refine DL_c (op_eqN _ _ (by kernel_rfl) (.inr ⟨_, _, rfl⟩) rfl) ?_
 refine DL_c (op_mv _ (rfl : _ = AV.v (.bool _))) ?_
 refine DL_cy rfl rfl (op_mv _ (rfl : _ = AV.v (.int _ _))) ?_
 refine DL_cy rfl rfl (op_neq (r := false) _ _ rfl rfl rfl) ?_
 refine DL_c (op_pick (b := false) _ _ _ rfl rfl) ?_
 refine DL_nil (hK4 _ ?_)
 clear hK4; try clear K4
 refine D_cF rfl rfl ?_
 refine D_skip (hK3 _ ?_)
 clear hK3; try clear K3
 refine D_seq fun K5 hK5 => ?_
 refine D_region ?_
 refine DL_c (op_bsF _ _ inferInstance rfl (by rfl) (by simp <;> rfl) (by decide) rfl) ?_
 refine DL_c (op_build _ inferInstance rfl (by exact (rfl : _ = some [_, _]))) ?_
 refine DL_c (op_box (20, 0) _ rfl rfl) ?_
 refine DL_c (op_as _ (rfl : _ = AV.ptr _ _)) ?_
 refine DL_nil (hK5 _ ?_)
 clear hK5; try clear K5
 refine D_seq fun K6 hK6 => ?_
 refine D_le (σ' := mkStI 47 [(1, _), (3, _)] [((20, 0), _)] [] []) (by
  refine Le.mkJ [] [] rfl ?_ ?_ trivial trivial ?_
  ·exact ⟨(iF rfl), (iP rfl), trivial⟩
  ·exact ⟨(obE rfl rfl rfl), trivial⟩
  ·kernel_rfl) ?_
 refine D_region ?_
 refine DL_c (op_mv _ (rfl : _ = AV.fp _ _)) ?_
 refine DL_c (op_mv _ (rfl : _ = AV.ptr _ _)) ?_
 refine DL_c (op_mf _ _ (rfl : _ = [_]) (rfl : _ = [])) ?_
 refine DL_c (op_callP inferInstance [((3, 9), (20, 0)), ((4, 8), (60, 0)), ((0, 8), (61, 0)), ((2, 8), (62, 0))] ?_ (hF) ⟨⟨rfl, ⟨_, rfl, .box rfl (lv_cons .sl (lv_cons .v lv_nil))⟩, rfl⟩, trivial⟩ ⟨rfl, rfl, rfl, rfl, trivial⟩ (by kernel_rfl)) ?_
 ·repeat' (first | exact argsR_nil | refine argsR_cons ?_ ?_ | exact Lv.v | exact Lv.fp | exact lvPr rfl | refine Lv.fn rfl ?_ rfl ?_ | exact lv_nil | refine lv_cons ?_ ?_)
 refine DL_c (op_mv _ (rfl : _ = AV.tup _)) ?_
 refine DL_c (op_ext _ rfl (rfl : _ = some (AV.ref _ _ _))) ?_
 refine DL_c (op_ext _ rfl (rfl : _ = some (AV.ref _ _ _))) ?_
 refine DL_c (op_ext _ rfl (rfl : _ = some (AV.v (.int _ _)))) ?_
 refine DL_c (op_as _ (rfl : _ = AV.ref _ _ _)) ?_
 refine DL_c (op_as _ (rfl : _ = AV.ref _ _ _)) ?_
 refine DL_c (op_as _ (rfl : _ = AV.v (.int _ _))) ?_
 refine DL_nil (hK6 _ ?_)
 clear hK6; try clear K6
 refine D_seq fun K7 hK7 => ?_
 refine D_region ?_
 refine DL_c (op_mv _ (rfl : _ = AV.v (.int _ _))) ?_
 refine DL_c (op_eql (r := true) _ _ rfl rfl rfl) ?_
 refine DL_c (op_mv _ (rfl : _ = AV.v (.bool _))) ?_
 refine DL_cy rfl rfl (op_mv _ (rfl : _ = AV.ref _ _ _)) ?_
 refine DL_cy rfl rfl (op_lenR _ inferInstance rfl rfl) ?_
 refine DL_cy rfl rfl (op_eql (r := true) _ _ rfl rfl rfl) ?_
 refine DL_c (op_pick _ _ _ rfl (rfl : _ = AV.v (.bool _))) ?_
 refine DL_c (op_mv _ (rfl : _ = AV.v (.bool _))) ?_
 refine DL_cy rfl rfl (op_mv _ (rfl : _ = AV.ref _ _ _)) ?_
 refine DL_cy rfl rfl (op_build _ inferInstance rfl (by exact (rfl : _ = some [_, _]))) ?_
 refine DL_cy rfl rfl (op_bsB (39, 0) 1 _ inferInstance (r := [[.v (.int .i64 2), .v (.slice none 0 0)]]) rfl rfl (by simp) (by decide) (by decide) rfl rfl) ?_
 refine DL_le (Le.trans (Le.frzRt (ys := blR [(2, [])]) 39 rfl rfl rfl (by rfl)) (Le.nil0 (39, 0) 1 rfl rfl)) ?_
 refine DL_cy rfl rfl (op_callBH inferInstance (by repeat' (first | exact argsLv_nil | refine argsLv_cons ?_ ?_ | exact Lv.sl | (refine frz0 rfl rfl ?_ rfl; (simp; done)))) (hS) rfl) ?_
 refine DL_c (op_pick _ _ _ rfl (rfl : _ = AV.v (.bool _))) ?_
 refine DL_c (op_mv _ (rfl : _ = AV.v (.bool _))) ?_
 refine DL_cy rfl rfl (op_mv _ (rfl : _ = AV.ref _ _ _)) ?_
 refine DL_cy rfl rfl (op_bsF _ _ inferInstance rfl (by rfl) (by simp <;> rfl) (by decide) rfl) ?_
 refine DL_cy rfl rfl (op_callBH inferInstance (by repeat' (first | exact argsLv_nil | refine argsLv_cons ?_ ?_ | exact Lv.sl | (refine frz0 rfl rfl ?_ rfl; (simp; done)))) (hO) rfl) ?_
 refine DL_c (op_pick _ _ _ rfl (rfl : _ = AV.v (.bool _))) ?_
 refine DL_c (op_as _ (rfl : _ = AV.v (.bool _))) ?_
 refine DL_nil (hK7 _ ?_)
 clear hK7; try clear K7
 refine D_ret ?_
 refine ret1 (.inr rfl) rfl (.tmp (rfl : _ = AV.v (.bool _))) (Le.out [] [] (lvB ?_) rfl rfl rfl trivial trivial)
 rfl
end Go.Proofs.Ytkbkmngbenohkaa

namespace Go.Proofs.Ytkbkmngbenohkaa
open Go.RowKit

theorem find_argN (n : Nat) (P A : List Nat) (hP : P.length = n) (st : List Int) (h : Int) (hh : h < 0 ∨ (n : Int) ≤ h) :
  Spec Try.prog 72 (inStI [.fp 0 (gra n P A), .v (.int .i64 h), .fn (.func 73) [.ptr (3, 9) 0] []] [((3, 9), .box 93 [.sl st.length (isl st), .v (.slice none 0 0)])])
   (outStI (.tup [.sl 0 [], .sl 0 [], .v (.int .i64 1)]) [((3, 9), .box 93 [.sl st.length (isl st), .ref (4, 8) 0 0]), ((4, 8), .row 3 1 [])] [(3, 9)] [(3, 9)]) := by
 have hl := vlen_spec n P A
 refine Spec.ofNI Try.func72 rfl Try.ntmps72 rfl ?_
 refine D_seq fun K1 hK1 => ?_
 refine D_region ?_
 refine DL_c (op_as _ (rfl : _ = AV.v (.slice _ _ _))) ?_
 refine DL_c (op_as _ (rfl : _ = AV.v (.slice _ _ _))) ?_
 refine DL_c (op_as _ (rfl : _ = AV.v (.int _ _))) ?_
 refine DL_nil (hK1 _ ?_)
 clear hK1; try clear K1
 refine D_seq fun K2 hK2 => ?_
 refine D_seq fun K3 hK3 => ?_
 refine D_le (Le.nilB (3, 9) 1 (4, 9) 3 1 rfl rfl rfl) ?_
 refine D_region ?_
 refine DL_c (op_mv _ (rfl : _ = AV.v (.int _ _))) ?_
 refine DL_c (op_lss _ _ rfl rfl rfl) ?_
 refine DL_c (op_mv _ (rfl : _ = AV.v (.bool _))) ?_
 refine DL_caseC (fun hg18 => ?_) (fun hg18 => ?_)
 ·skip
  refine DL_cn rfl rfl (by decide) ?_
  refine DL_cn rfl rfl (by decide) ?_
  refine DL_cn rfl rfl (by decide) ?_
  refine DL_cn rfl rfl (by decide) ?_
  refine DL_c (op_pick _ _ _ rfl (rfl : _ = AV.v (.bool _))) ?_
  refine DL_nil (hK3 _ ?_)
  clear hK3; try clear K3
  refine D_cT rfl rfl ?_
  refine D_seq fun K4 hK4 => ?_
  refine D_region ?_
  refine DL_c (op_as _ (rfl : _ = AV.v (.slice _ _ _))) ?_
  refine DL_c (op_as _ (rfl : _ = AV.v (.slice _ _ _))) ?_
  refine DL_c (op_as _ (rfl : _ = AV.v (.int _ _))) ?_
  refine DL_nil (hK4 _ ?_)
  clear hK4; try clear K4
  refine D_ret ?_
  exact ret3 (.inr rfl) rfl (.tmp (rfl : _ = AV.v _)) (.tmp (rfl : _ = AV.v _)) (.tmp (rfl : _ = AV.v _)) (Le.outI [((4, 8), (4, 9))] [] (.tup rfl (lv_cons .nil (lv_cons .nil (lv_cons .v lv_nil)))) rfl rfl rfl trivial ⟨⟨rfl, ⟨_, rfl, .box rfl (lv_cons .sl (lv_cons (lvRr rfl rfl) lv_nil))⟩, rfl⟩, ⟨rfl, ⟨_, rfl, .rowE rfl⟩, rfl⟩, trivial⟩ ⟨rfl, trivial⟩ rfl)
 ·skip
  skip
  refine DL_cy rfl rfl (op_mv _ (rfl : _ = AV.v (.int _ _))) ?_
  refine DL_cy rfl rfl (op_mv _ (rfl : _ = AV.fp _ _)) ?_
  refine DL_cy rfl rfl (op_callH inferInstance (by repeat' (first | exact argsLv_nil | refine argsLv_cons ?_ ?_ | exact Lv.fp)) (hl) rfl rfl) ?_
  refine DL_cy rfl rfl (op_geq _ _ rfl rfl rfl) ?_
  refine DL_c (op_pick _ _ _ rfl (rfl : _ = AV.v (.bool _))) ?_
  refine DL_nil (hK3 _ ?_)
  clear hK3; try clear K3
  refine D_splitC rfl (fun hc23 => ?_) (fun hc23 => ?_)
  ·skip
   refine D_seq fun K5 hK5 => ?_
   refine D_region ?_
   refine DL_c (op_as _ (rfl : _ = AV.v (.slice _ _ _))) ?_
   refine DL_c (op_as _ (rfl : _ = AV.v (.slice _ _ _))) ?_
   refine DL_c (op_as _ (rfl : _ = AV.v (.int _ _))) ?_
   refine DL_nil (hK5 _ ?_)
   clear hK5; try clear K5
   refine D_ret ?_
   exact ret3 (.inr rfl) rfl (.tmp (rfl : _ = AV.v _)) (.tmp (rfl : _ = AV.v _)) (.tmp (rfl : _ = AV.v _)) (Le.outI [((4, 8), (4, 9))] [] (.tup rfl (lv_cons .nil (lv_cons .nil (lv_cons .v lv_nil)))) rfl rfl rfl trivial ⟨⟨rfl, ⟨_, rfl, .box rfl (lv_cons .sl (lv_cons (lvRr rfl rfl) lv_nil))⟩, rfl⟩, ⟨rfl, ⟨_, rfl, .rowE rfl⟩, rfl⟩, trivial⟩ ⟨rfl, trivial⟩ rfl)
  ·skip
   exact absurd  hc23 (by omega)
/-- What Find comes to: the tests in order, the blames, the order that is told, the error. -/
noncomputable def findR (n : Nat) (Ps : List (List Int)) (st : List Int) (head : Int) : List Nat × List (Nat × List Nat) × List Nat × Int :=
 if head < 0 ∨ (n : Int) ≤ head then ([], [], [], 1)
 else if nst st head.toNat ≠ 1 then ([head.toNat], [], [], 41)
 else if (fnd (anR n (ancW n (edg Ps n 0))) n (fun v => wat n (parW Ps) (v : Int)) st head.toNat (upE Ps head.toNat)).2 = true
  then ((fnd (anR n (ancW n (edg Ps n 0))) n (fun v => wat n (parW Ps) (v : Int)) st head.toNat (upE Ps head.toNat)).1.1, (fnd (anR n (ancW n (edg Ps n 0))) n (fun v => wat n (parW Ps) (v : Int)) st head.toNat (upE Ps head.toNat)).1.2, (fnd (anR n (ancW n (edg Ps n 0))) n (fun v => wat n (parW Ps) (v : Int)) st head.toNat (upE Ps head.toNat)).1.1, 0)
  else ((fnd (anR n (ancW n (edg Ps n 0))) n (fun v => wat n (parW Ps) (v : Int)) st head.toNat (upE Ps head.toNat)).1.1, [], [], 42)
/-- Find, the box of whose tester bears the name (3, 9): the answers are data. -/
abbrev findS (n : Nat) (Ps : List (List Int)) (st : List Int) (head : Int) (r : List Nat × List (Nat × List Nat) × List Nat × Int) : Prop :=
 Spec Try.prog 72 (inStI [.fp 0 (gra n (parW Ps) (ancW n (edg Ps n 0))), .v (.int .i64 head), .fn (.func 73) [.ptr (3, 9) 0] []] [((3, 9), .box 93 [.sl st.length (isl st), .v (.slice none 0 0)])])
  (outStI (.tup [.sl r.2.1.length (blR r.2.1), .sl r.2.2.1.length (nsl r.2.2.1), .v (.int .i64 r.2.2.2)]) [((3, 9), .box 93 [.sl st.length (isl st), .ref (4, 8) 0 r.1.length]), ((4, 8), .row 3 1 (nsl r.1))] [(3, 9)] [(3, 9)])
theorem findR_spec {n : Nat} {Ps : List (List Int)} (hPs : Ps.length = n) (h64 : n ≤ 64) (hV : Valid Ps) (hlt : ∀ {a b : Nat}, Clo (edg Ps n 0) a b → a < b) (st : List Int) (h1 : st.length ≤ 4611686018427387904) (head : Int) :
  findS n Ps st head (findR n Ps st head) := by
 unfold findS findR
 by_cases hr : head < 0 ∨ (n : Int) ≤ head
 ·rw [if_pos hr]
  exact find_argN n (parW Ps) (ancW n (edg Ps n 0)) (by rw [parW_len, hPs]) st head hr
 ·rw [if_neg hr]
  obtain ⟨h, rfl⟩ := Int.eq_ofNat_of_zero_le (show 0 ≤ head by omega)
  have hh : h < n := by omega
  rw [Int.toNat_natCast]
  by_cases hs : nst st h = 1
  ·rw [if_neg (fun hn => hn hs)]
   have hF := findG_spec hPs h64 hV hlt st h1 h hh hs
   generalize fnd (anR n (ancW n (edg Ps n 0))) n (fun v => wat n (parW Ps) (v : Int)) st h (upE Ps h) = r at hF ⊢
   obtain ⟨⟨ord, bl⟩, b⟩ := r
   cases b with
   | true =>
    rw [if_pos rfl]
    refine hF.mono (Le.outII [] [(0, 8), (2, 8)] (.tup rfl (lv_cons (frz0 rfl rfl (by simp) rfl) (lv_cons (frz0 rfl rfl (by simp) rfl) (lv_cons .v lv_nil)))) rfl rfl rfl ⟨rfl, rfl, trivial⟩ ⟨⟨rfl, ⟨_, rfl, .box rfl (lv_cons .sl (lv_cons (lvRr rfl rfl) lv_nil))⟩, rfl⟩, ⟨rfl, ⟨_, rfl, .rowE rfl⟩, rfl⟩, trivial⟩ ⟨rfl, trivial⟩ rfl)
   | false =>
    rw [if_neg (by simp)]
    refine hF.mono (Le.outII [] [] (.tup rfl (lv_cons .nil (lv_cons .nil (lv_cons .v lv_nil)))) rfl rfl rfl trivial ⟨⟨rfl, ⟨_, rfl, .box rfl (lv_cons .sl (lv_cons (lvRr rfl rfl) lv_nil))⟩, rfl⟩, ⟨rfl, ⟨_, rfl, .rowE rfl⟩, rfl⟩, trivial⟩ ⟨rfl, trivial⟩ rfl)
  ·rw [if_pos hs]
   have hF := findGv_spec hPs h64 hV hlt st h1 h hh hs
   refine hF.mono (Le.outII [] [] (.tup rfl (lv_cons .nil (lv_cons .nil (lv_cons .v lv_nil)))) rfl rfl rfl trivial ⟨⟨rfl, ⟨_, rfl, .box rfl (lv_cons .sl (lv_cons (lvRr rfl rfl) lv_nil))⟩, rfl⟩, ⟨rfl, ⟨_, rfl, .rowE rfl⟩, rfl⟩, trivial⟩ ⟨rfl, trivial⟩ rfl)
end Go.Proofs.Ytkbkmngbenohkaa

namespace Go.Proofs.Ytkbkmngbenohkaa
open Go.RowKit

section
variable {st su : List Int} (hns : ∀ v, nst st v = nst su v) {R : Rl} {n : Nat} {par : Nat → List Nat} {h : Nat} {sc : List Nat}
include hns
end
/-- The statuses with an odd one in place of untestable. -/
def odds (st : List Int) (odd : Int) (k : Nat) : List Int := (List.range k).map fun i => if st.getD i 0 = 2 ∧ odd ≠ 0 ∧ odd ≠ 1 then odd else st.getD i 0
@[simp] theorem odds_len (st : List Int) (odd : Int) (k : Nat) : (odds st odd k).length = k := by simp [odds]
theorem status_012 (Ps : List (List Int)) (s : List Int) (b : Bool) : ∀ v, v < Ps.length → (status32 Ps s b).getD v 0 = 0 ∨ (status32 Ps s b).getD v 0 = 1 ∨ (status32 Ps s b).getD v 0 = 2 := by
 have h0 : ∀ v, (st0 Ps.length s).getD v 0 = 0 ∨ (st0 Ps.length s).getD v 0 = 1 ∨ (st0 Ps.length s).getD v 0 = 2 := by
  intro v
  by_cases hv : v < Ps.length
  ·have := stv_bd s v
   have e : (st0 Ps.length s).getD v 0 = stv s v := by simp [st0, List.getD_eq_getElem?_getD, hv]
   rw [e]; omega
  ·rw [List.getD_eq_getElem?_getD, List.getElem?_eq_none (by rw [st0_len]; omega)]; exact .inl rfl
 have hset : ∀ (o : List Int) (v : Nat), (∀ i, o.getD i 0 = 0 ∨ o.getD i 0 = 1 ∨ o.getD i 0 = 2) → ∀ i, (o.set v 1).getD i 0 = 0 ∨ (o.set v 1).getD i 0 = 1 ∨ (o.set v 1).getD i 0 = 2 := by
  intro o v ho i
  rw [getD_set]
  split
  ·exact .inr (.inl rfl)
  ·exact ho i
 have hinh : ∀ (a : List Nat) (o : List Int) (v : Nat), (∀ i, o.getD i 0 = 0 ∨ o.getD i 0 = 1 ∨ o.getD i 0 = 2) → ∀ i, (inh1 o v a).getD i 0 = 0 ∨ (inh1 o v a).getD i 0 = 1 ∨ (inh1 o v a).getD i 0 = 2 := by
  intro a
  induction a with
  | nil => exact fun o v h => h
  | cons u a ih =>
   intro o v ho
   have e : inh1 o v (u :: a) = inh1 (if o.getD u 0 = 1 ∧ o.getD v 0 = 0 then o.set v 1 else o) v a := rfl
   rw [e]
   apply ih
   split
   ·exact hset o v ho
   ·exact ho
 have hK : ∀ k i, (stK Ps s b k).getD i 0 = 0 ∨ (stK Ps s b k).getD i 0 = 1 ∨ (stK Ps s b k).getD i 0 = 2 := by
  intro k
  induction k with
  | zero => rw [stK_zero]; exact h0
  | succ k ih =>
   cases b with
   | false => rw [stK_false Ps s (k + 1) 0, stK_zero]; exact h0
   | true => rw [stK_succ]; exact hinh _ _ _ ih
 exact fun v _ => hK Ps.length v
end Go.Proofs.Ytkbkmngbenohkaa

namespace Go.Proofs.Ytkbkmngbenohkaa
open Go.RowKit

theorem status_own (n : Nat) (Ps : List (List Int)) (hG : GG n Ps) (m : Nat) (l : List Int) (hm : l.length = m) (h1 : m ≤ 4611686018427387904) (hr : Rng l) (b : Bool) :
  Spec Try.prog 57 (inSt [.sl n (nrows Ps), .sl m (isl l), .v (.bool b)] []) (outSt (.ref (63, 0) 0 n) [((63, 0), .row 3 1 (isl (status32 Ps l b)))]) := by
 have hn := hG.n64
 have hPl := hG.len
 refine Spec.ofN Try.func57 rfl Try.ntmps57 rfl ?_
 refine D_seq fun K1 hK1 => ?_
 refine D_region ?_
 refine DL_c (op_as _ (rfl : _ = AV.v (.slice _ _ _))) ?_
 refine DL_nil (hK1 _ ?_)
 clear hK1; try clear K1
 refine D_seq fun K2 hK2 => ?_
 refine D_region ?_
 refine DL_c (op_asN (7, 0) _ 3 1 rfl rfl) ?_
 refine DL_nil (hK2 _ ?_)
 clear hK2; try clear K2
 refine D_seq fun K3 hK3 => ?_
 refine D_seq fun K4 hK4 => ?_
 refine D_region ?_
 refine DL_c (op_as _ (rfl : _ = AV.v (.int _ _))) ?_
 refine DL_nil (hK4 _ ?_)
 clear hK4; try clear K4
 refine D_block ?_
 refine D_loopL (α := Nat) (fun v => v ≤ n) 66 [(0, _), (1, _), (2, _)] [] (fun v => [(8, .v (.int .i64 (v : Int))), (7, .ref (7, 0) 0 v)]) (fun v => [((7, 0), .row 3 1 (isl (st0 v l)))]) [] [] (fun v => n - v) 0 ?_ (by
  refine Le.mkJ [] [] rfl ?_ ?_ trivial trivial ?_
  ·exact ⟨(iS rfl), (iS rfl), (iV rfl), (lvI (by rfl)), (lvRr rfl (by rfl)), trivial⟩
  ·exact ⟨(obR rfl rfl rfl (by rfl)), trivial⟩
  ·kernel_rfl) ?_
 ·omega
 intro v hv
 refine D_seq fun K5 hK5 => ?_
 refine D_seq fun K6 hK6 => ?_
 refine D_region ?_
 refine DL_c (op_mv _ (rfl : _ = AV.v (.int _ _))) ?_
 refine DL_c (op_mv _ (rfl : _ = AV.sl _ _)) ?_
 refine DL_c (op_lenS _ inferInstance rfl) ?_
 refine DL_c (op_lss _ _ rfl rfl rfl) ?_
 refine DL_nil (hK6 _ ?_)
 clear hK6; try clear K6
 refine D_splitC rfl (fun hc16 => ?_) (fun hc16 => ?_)
 ·skip
  have hp := pk_bd l v 6 (by decide)
  obtain ⟨k, hk⟩ := Int.eq_ofNat_of_zero_le hp.1
  have hsv : stv l v = [0, 0, 2, 1, 0, 2].getD k 0 := by rw [stv, hk, Int.toNat_natCast]
  have hk6 : k < 6 := by omega
  refine D_skip (hK5 _ ?_)
  clear hK5; try clear K5
  refine D_seq fun K7 hK7 => ?_
  refine D_block ?_
  refine D_seq fun K8 hK8 => ?_
  refine D_region ?_
  refine DL_c (op_bsF _ _ inferInstance rfl (by rfl) (by simp <;> rfl) (by decide) rfl) ?_
  refine DL_c (op_mv _ (rfl : _ = AV.sl _ _)) ?_
  refine DL_c (op_mv _ (rfl : _ = AV.v (.int _ _))) ?_
  refine DL_c (op_callH inferInstance (by repeat' (first | exact argsLv_nil | refine argsLv_cons ?_ ?_ | exact Lv.v | exact Lv.sl)) (pick_spec m l hm h1 hr v 6 (by omega) (by omega)) rfl rfl) ?_
  refine DL_c (op_ixS _ _ inferInstance rfl rfl k hk (by omega) (by simp only [List.length_cons, List.length_nil]; omega) (Nat.mul_one _)) ?_
  refine DL_c (op_ldF _ inferInstance rfl (by exact isl_get [0, 0, 2, 1, 0, 2] k hk6) rfl) ?_
  refine DL_c (op_as _ (rfl : _ = AV.v (.int _ _))) ?_
  refine DL_nil (hK8 _ ?_)
  clear hK8; try clear K8
  refine D_region ?_
  refine DL_c (op_mv _ (rfl : _ = AV.ref _ _ _)) ?_
  refine DL_c (op_mv _ (rfl : _ = AV.v (.int _ _))) ?_
  refine DL_c (op_bsF _ _ inferInstance rfl (by rfl) (by simp <;> rfl) (by decide) rfl) ?_
  refine DL_c (op_ap (28, 0) _ _ inferInstance rfl rfl (by (simp only [isl_len, bsl_len, psl_len, mrows_len, nsl_len, ws_len, List.length_map, ul_len, psl_len, isl_len, nrows_len, prL_len, blR_len, stK_len, inh1_len, st0_len]; omega)) (by (refine .sl ?_; (simp [isl]; done))) (by omega) rfl (rfl) (rfl)) ?_
  refine DL_c (op_as _ (rfl : _ = AV.ref _ _ _)) ?_
  refine DL_nil (hK7 _ ?_)
  clear hK7; try clear K7
  refine D_le (σ' := mkStI 66 [(0, _), (1, _), (2, _), (7, _), (8, _)] [((28, 0), _)] [] []) (by
   refine Le.mkJ [] [] rfl ?_ ?_ trivial trivial ?_
   ·exact ⟨(iS rfl), (iS rfl), (iV rfl), (iR rfl), (iV rfl), trivial⟩
   ·exact ⟨(obE rfl rfl rfl), trivial⟩
   ·kernel_rfl) ?_
  refine D_region ?_
  refine DL_c (op_mv _ (rfl : _ = AV.v (.int _ _))) ?_
  refine DL_c (op_add _ _ rfl rfl (i64w (by omega))) ?_
  refine DL_c (op_as _ (rfl : _ = AV.v (.int _ _))) ?_
  refine DL_nil ?_
  refine ⟨v + 1, ?_, ?_, ?_⟩
  ·omega
  ·skip
   refine Le.mkJ [((7, 0), (28, 0))] [] rfl ?_ ?_ trivial trivial ?_
   ·exact ⟨(by repeat' (exact Lv.sl)), (by repeat' (exact Lv.sl)), (by repeat' (exact Lv.v)), (lvI (by rfl)), (lvRr rfl (by rfl)), trivial⟩
   ·exact ⟨(obR rfl rfl rfl (by rw [st0_succ, hsv]; simp [isl])), trivial⟩
   ·kernel_rfl
  ·omega
 ·skip
  obtain rfl : v = n := by omega
  refine D_exit ?_
  refine id (hK3 _ ?_)
  clear hK3; try clear K3
  refine D_seq fun K9 hK9 => ?_
  refine D_seq fun K10 hK10 => ?_
  refine D_region ?_
  refine DL_c (op_as _ (rfl : _ = AV.v (.int _ _))) ?_
  refine DL_nil (hK10 _ ?_)
  clear hK10; try clear K10
  refine D_block ?_
  refine D_loopL (α := Nat) (fun k => k ≤ v) 66 [(0, _), (2, _), (7, _)] [] (fun k => [(10, .v (.int .i64 (k : Int)))]) (fun k => [((7, 0), .row 3 1 (isl (stK Ps l b k)))]) [] [] (fun k => v - k) 0 ?_ (by
   refine Le.mkJ [] [] rfl ?_ ?_ trivial trivial ?_
   ·exact ⟨(iS rfl), (iV rfl), (iR rfl), (lvI (by rfl)), trivial⟩
   ·exact ⟨(obR rfl rfl rfl (by rw [stK_zero, hPl])), trivial⟩
   ·kernel_rfl) ?_
  ·omega
  intro k hk
  refine D_seq fun K11 hK11 => ?_
  refine D_seq fun K12 hK12 => ?_
  refine D_region ?_
  refine DL_c (op_mv _ (rfl : _ = AV.v (.int _ _))) ?_
  refine DL_c (op_mv _ (rfl : _ = AV.sl _ _)) ?_
  refine DL_c (op_lenS _ inferInstance rfl) ?_
  refine DL_c (op_lss _ _ rfl rfl rfl) ?_
  refine DL_c (op_mv _ (rfl : _ = AV.v (.bool _))) ?_
  refine DL_caseC (fun hg33 => ?_) (fun hg33 => ?_)
  ·skip
   refine DL_cy rfl rfl (op_mv _ (rfl : _ = AV.v (.bool _))) ?_
   refine DL_c (op_pick _ _ _ rfl (rfl : _ = AV.v (.bool _))) ?_
   refine DL_nil (hK12 _ ?_)
   clear hK12; try clear K12
   refine D_splitC rfl (fun hc35 => ?_) (fun hc35 => ?_)
   ·skip
    have hb : b = true := hc35
    subst hb
    have hsl := stK_len Ps l true k
    have hul := upE_len Ps k
    have hss := stK_succ Ps l k
    refine D_skip (hK11 _ ?_)
    clear hK11; try clear K11
    refine D_seq fun K13 hK13 => ?_
    refine D_block ?_
    refine D_seq fun K14 hK14 => ?_
    refine D_region ?_
    refine DL_c (op_mv _ (rfl : _ = AV.sl _ _)) ?_
    refine DL_c (op_mv _ (rfl : _ = AV.v (.int _ _))) ?_
    refine DL_c (op_callH inferInstance (by repeat' (first | exact argsLv_nil | refine argsLv_cons ?_ ?_ | exact Lv.v | exact Lv.sl)) (rancN_spec v Ps hG k) rfl rfl) ?_
    refine DL_c (op_as _ (rfl : _ = AV.sl _ _)) ?_
    refine DL_nil (hK14 _ ?_)
    clear hK14; try clear K14
    refine D_seq fun K15 hK15 => ?_
    refine D_region ?_
    refine DL_c (op_as _ (rfl : _ = AV.v (.int _ _))) ?_
    refine DL_nil (hK15 _ ?_)
    clear hK15; try clear K15
    refine D_block ?_
    refine D_loopL (α := Nat) (fun j => j ≤ (upE Ps k).length) 66 [(0, _), (2, _), (7, _), (10, _), (11, _)] [] (fun j => [(12, .v (.int .i64 (j : Int)))]) (fun j => [((7, 0), .row 3 1 (isl (inh1 (stK Ps l true k) k ((upE Ps k).take j))))]) [] [] (fun j => (upE Ps k).length - j) 0 ?_ (by
     refine Le.mkJ [] [] rfl ?_ ?_ trivial trivial ?_
     ·exact ⟨(iS rfl), (iV rfl), (iR rfl), (iV rfl), (iS rfl), (lvI (by rfl)), trivial⟩
     ·exact ⟨(obR rfl rfl rfl (by rfl)), trivial⟩
     ·kernel_rfl) ?_
    ·omega
    intro j hj
    have hil := inh1_len k ((upE Ps k).take j) (stK Ps l true k)
    refine D_seq fun K16 hK16 => ?_
    refine D_seq fun K17 hK17 => ?_
    refine D_region ?_
    refine DL_c (op_mv _ (rfl : _ = AV.v (.int _ _))) ?_
    refine DL_c (op_mv _ (rfl : _ = AV.sl _ _)) ?_
    refine DL_c (op_lenS _ inferInstance rfl) ?_
    refine DL_c (op_lss _ _ rfl rfl rfl) ?_
    refine DL_nil (hK17 _ ?_)
    clear hK17; try clear K17
    refine D_splitC rfl (fun hc44 => ?_) (fun hc44 => ?_)
    ·skip
     obtain ⟨u, hu⟩ : ∃ u, u = (upE Ps k).getD j 0 := ⟨_, rfl⟩
     have hum : u ∈ upE Ps k := hu ▸ getD_mem (by omega)
     have hun := upE_lt hG hum
     have htk : (upE Ps k).take (j + 1) = (upE Ps k).take j ++ [u] := by rw [take1 0 (by omega), hu]
     have hin := inh1_snoc (stK Ps l true k) k ((upE Ps k).take j) u
     rw [← htk] at hin
     generalize inh1 (stK Ps l true k) k ((upE Ps k).take j) = o at hil hin ⊢
     refine D_skip (hK16 _ ?_)
     clear hK16; try clear K16
     refine D_seq fun K18 hK18 => ?_
     refine D_block ?_
     refine D_seq fun K19 hK19 => ?_
     refine D_region ?_
     refine DL_c (op_mv _ (rfl : _ = AV.ref _ _ _)) ?_
     refine DL_c (op_mv _ (rfl : _ = AV.sl _ _)) ?_
     refine DL_c (op_mv _ (rfl : _ = AV.v (.int _ _))) ?_
     refine DL_c (op_ixS _ _ inferInstance rfl rfl _ rfl (by omega) (by (simp only [isl_len, bsl_len, psl_len, mrows_len, nsl_len, ws_len, List.length_map, ul_len, psl_len, isl_len, nrows_len, prL_len, blR_len, stK_len, inh1_len, st0_len]; omega)) (by exact Nat.mul_one _)) ?_
     refine DL_c (op_ldF _ inferInstance rfl (by exact (nsl_get _ _ (by omega)).trans (by rw [← hu])) rfl) ?_
     refine DL_c (op_ixR _ _ inferInstance rfl rfl rfl u rfl (by omega) (by exact (Nat.zero_add _).trans (Nat.mul_one _))) ?_
     refine DL_c (op_ldR _ inferInstance rfl rfl (by exact isl_get _ _ (by omega)) rfl) ?_
     refine DL_c (op_eql _ _ rfl rfl rfl) ?_
     refine DL_c (op_mv _ (rfl : _ = AV.v (.bool _))) ?_
     refine DL_caseC (fun hg55 => ?_) (fun hg55 => ?_)
     ·skip
      refine DL_cy rfl rfl (op_mv _ (rfl : _ = AV.ref _ _ _)) ?_
      refine DL_cy rfl rfl (op_mv _ (rfl : _ = AV.v (.int _ _))) ?_
      refine DL_cy rfl rfl (op_ixR _ _ inferInstance rfl rfl rfl k rfl (by omega) (by exact (Nat.zero_add _).trans (Nat.mul_one _))) ?_
      refine DL_cy rfl rfl (op_ldR _ inferInstance rfl rfl (by exact isl_get _ _ (by omega)) rfl) ?_
      refine DL_cy rfl rfl (op_eql _ _ rfl rfl rfl) ?_
      refine DL_c (op_pick _ _ _ rfl (rfl : _ = AV.v (.bool _))) ?_
      refine DL_nil (hK19 _ ?_)
      clear hK19; try clear K19
      refine D_splitC rfl (fun hc61 => ?_) (fun hc61 => ?_)
      ·skip
       refine D_le (σ' := mkStI 66 [(0, _), (2, _), (7, _), (10, _), (11, _), (12, _)] [((7, 0), _)] [] []) (by
        refine Le.mkJ [] [] rfl ?_ ?_ trivial trivial ?_
        ·exact ⟨(iS rfl), (iV rfl), (iR rfl), (iV rfl), (iS rfl), (iV rfl), trivial⟩
        ·exact ⟨(obE rfl rfl rfl), trivial⟩
        ·kernel_rfl) ?_
       refine D_region ?_
       refine DL_c (op_mv _ (rfl : _ = AV.ref _ _ _)) ?_
       refine DL_c (op_mv _ (rfl : _ = AV.v (.int _ _))) ?_
       refine DL_c (op_ixR _ _ inferInstance rfl rfl rfl k rfl (by omega) (by exact (Nat.zero_add _).trans (Nat.mul_one _))) ?_
       refine DL_c (op_stR _ _ inferInstance rfl rfl rfl rfl rfl (by (simp only [isl_len, bsl_len, psl_len, mrows_len, nsl_len, ws_len, List.length_map, ul_len, psl_len, isl_len, nrows_len, prL_len, blR_len, stK_len, inh1_len, st0_len, List.length_cons, List.length_nil]; omega)) rfl) ?_
       refine DL_nil (hK18 _ ?_)
       clear hK18; try clear K18
       refine D_region ?_
       refine DL_c (op_mv _ (rfl : _ = AV.v (.int _ _))) ?_
       refine DL_c (op_add _ _ rfl rfl (i64w (by omega))) ?_
       refine DL_c (op_as _ (rfl : _ = AV.v (.int _ _))) ?_
       refine DL_nil ?_
       refine ⟨j + 1, ?_, ?_, ?_⟩
       ·omega
       ·skip
        refine Le.mkJ [] [] rfl ?_ ?_ trivial trivial ?_
        ·exact ⟨(iS rfl), (iV rfl), (iR rfl), (iV rfl), (iS rfl), (lvI (by rfl)), trivial⟩
        ·exact ⟨(obR rfl rfl rfl (by rw [hin, if_pos ⟨hg55, hc61⟩, isl_put _ _ _ (by omega)])), trivial⟩
        ·kernel_rfl
       ·omega
      ·skip
       refine D_skip (hK18 _ ?_)
       clear hK18; try clear K18
       refine D_le (σ' := mkStI 66 [(0, _), (2, _), (7, _), (10, _), (11, _), (12, _)] [((7, 0), _)] [] []) (by
        refine Le.mkJ [] [] rfl ?_ ?_ trivial trivial ?_
        ·exact ⟨(iS rfl), (iV rfl), (iR rfl), (iV rfl), (iS rfl), (iV rfl), trivial⟩
        ·exact ⟨(obE rfl rfl rfl), trivial⟩
        ·kernel_rfl) ?_
       refine D_region ?_
       refine DL_c (op_mv _ (rfl : _ = AV.v (.int _ _))) ?_
       refine DL_c (op_add _ _ rfl rfl (i64w (by omega))) ?_
       refine DL_c (op_as _ (rfl : _ = AV.v (.int _ _))) ?_
       refine DL_nil ?_
       refine ⟨j + 1, ?_, ?_, ?_⟩
       ·omega
       ·skip
        refine Le.mkJ [] [] rfl ?_ ?_ trivial trivial ?_
        ·exact ⟨(iS rfl), (iV rfl), (iR rfl), (iV rfl), (iS rfl), (lvI (by rfl)), trivial⟩
        ·exact ⟨(obR rfl rfl rfl (by rw [hin, if_neg (fun h => hc61 h.2)])), trivial⟩
        ·kernel_rfl
       ·omega
     ·skip
      refine DL_cn rfl rfl (by decide) ?_
      refine DL_cn rfl rfl (by decide) ?_
      refine DL_cn rfl rfl (by decide) ?_
      refine DL_cn rfl rfl (by decide) ?_
      refine DL_cn rfl rfl (by decide) ?_
      refine DL_c (op_pick _ _ _ rfl (rfl : _ = AV.v (.bool _))) ?_
      refine DL_nil (hK19 _ ?_)
      clear hK19; try clear K19
      refine D_cF rfl rfl ?_
      refine D_skip (hK18 _ ?_)
      clear hK18; try clear K18
      refine D_le (σ' := mkStI 66 [(0, _), (2, _), (7, _), (10, _), (11, _), (12, _)] [((7, 0), _)] [] []) (by
       refine Le.mkJ [] [] rfl ?_ ?_ trivial trivial ?_
       ·exact ⟨(iS rfl), (iV rfl), (iR rfl), (iV rfl), (iS rfl), (iV rfl), trivial⟩
       ·exact ⟨(obE rfl rfl rfl), trivial⟩
       ·kernel_rfl) ?_
      refine D_region ?_
      refine DL_c (op_mv _ (rfl : _ = AV.v (.int _ _))) ?_
      refine DL_c (op_add _ _ rfl rfl (i64w (by omega))) ?_
      refine DL_c (op_as _ (rfl : _ = AV.v (.int _ _))) ?_
      refine DL_nil ?_
      refine ⟨j + 1, ?_, ?_, ?_⟩
      ·omega
      ·skip
       refine Le.mkJ [] [] rfl ?_ ?_ trivial trivial ?_
       ·exact ⟨(iS rfl), (iV rfl), (iR rfl), (iV rfl), (iS rfl), (lvI (by rfl)), trivial⟩
       ·exact ⟨(obR rfl rfl rfl (by rw [hin, if_neg (fun h => hg55 h.1)])), trivial⟩
       ·kernel_rfl
      ·omega
    ·skip
     have hjl : (upE Ps k).take j = upE Ps k := List.take_of_length_le (by omega)
     refine D_exit ?_
     refine id (hK13 _ ?_)
     clear hK13; try clear K13
     refine D_region ?_
     refine DL_c (op_mv _ (rfl : _ = AV.v (.int _ _))) ?_
     refine DL_c (op_add _ _ rfl rfl (i64w (by omega))) ?_
     refine DL_c (op_as _ (rfl : _ = AV.v (.int _ _))) ?_
     refine DL_nil ?_
     refine ⟨k + 1, ?_, ?_, ?_⟩
     ·omega
     ·skip
      refine Le.mkJ [] [] rfl ?_ ?_ trivial trivial ?_
      ·exact ⟨(iS rfl), (iV rfl), (iR rfl), (lvI (by rfl)), trivial⟩
      ·exact ⟨(obR rfl rfl rfl (by rw [hss, hjl])), trivial⟩
      ·kernel_rfl
     ·omega
   ·skip
    have hfin : stK Ps l b k = status32 Ps l b := by
     have hb : b = false := by simpa using hc35
     subst hb; exact stK_false Ps l k _
    refine D_exit ?_
    refine id (hK9 _ ?_)
    clear hK9; try clear K9
    refine D_seq fun K20 hK20 => ?_
    refine D_region ?_
    refine DL_c (op_mv _ (rfl : _ = AV.ref _ _ _)) ?_
    refine DL_c (op_as _ (rfl : _ = AV.ref _ _ _)) ?_
    refine DL_nil (hK20 _ ?_)
    clear hK20; try clear K20
    refine D_ret ?_
    rw [← hfin]
    exact ret1 (.inr rfl) rfl (.tmp (rfl : _ = AV.ref _ _ _)) (Le.out [((63, 0), (7, 0))] [] (lvRr rfl (by omega)) rfl rfl rfl trivial ⟨⟨rfl, ⟨_, rfl, .rowE rfl⟩, rfl⟩, trivial⟩)
  ·skip
   have hfin : stK Ps l b k = status32 Ps l b := by rw [status32, hPl, show k = v by omega]
   refine DL_cn rfl rfl (by decide) ?_
   refine DL_c (op_pick _ _ _ rfl (rfl : _ = AV.v (.bool _))) ?_
   refine DL_nil (hK12 _ ?_)
   clear hK12; try clear K12
   refine D_cF rfl rfl ?_
   refine D_exit ?_
   refine id (hK9 _ ?_)
   clear hK9; try clear K9
   refine D_seq fun K21 hK21 => ?_
   refine D_region ?_
   refine DL_c (op_mv _ (rfl : _ = AV.ref _ _ _)) ?_
   refine DL_c (op_as _ (rfl : _ = AV.ref _ _ _)) ?_
   refine DL_nil (hK21 _ ?_)
   clear hK21; try clear K21
   refine D_ret ?_
   rw [← hfin]
   exact ret1 (.inr rfl) rfl (.tmp (rfl : _ = AV.ref _ _ _)) (Le.out [((63, 0), (7, 0))] [] (lvRr rfl (by omega)) rfl rfl rfl trivial ⟨⟨rfl, ⟨_, rfl, .rowE rfl⟩, rfl⟩, trivial⟩)
end Go.Proofs.Ytkbkmngbenohkaa

namespace Go.Proofs.Ytkbkmngbenohkaa
open Go.RowKit

theorem inh_R {n : Nat} {Ps : List (List Int)} (hPs : Ps.length = n) (h64 : n ≤ 64) (hV : Valid Ps) (hlt : ∀ {a b : Nat}, Clo (edg Ps n 0) a b → a < b) {st : List Int} (h012 : ∀ v, v < n → st.getD v 0 = 0 ∨ st.getD v 0 = 1 ∨ st.getD v 0 = 2) (hst : st.length = n)
  (hr : rinh Ps st n) : Inh (anR n (ancW n (edg Ps n 0))) st := by
 have hG := gr_of hPs h64 hV hlt
 intro b g hb h1 h0
 obtain ⟨hbn, hgn⟩ := hG.lt hb
 rw [nst_eq h012 hst hbn] at h1
 rw [nst_eq h012 hst hgn] at h0
 exact hr g hgn h0 b ((anR_iff hPs).1 hb) h1
/-- For a bad head and inherited statuses Find's blames are those of Minimal. -/
theorem exact_R {n : Nat} {Ps : List (List Int)} (hPs : Ps.length = n) (h64 : n ≤ 64) (hV : Valid Ps) (hlt : ∀ {a b : Nat}, Clo (edg Ps n 0) a b → a < b) {st : List Int} (h012 : ∀ v, v < n → st.getD v 0 = 0 ∨ st.getD v 0 = 1 ∨ st.getD v 0 = 2) (hst : st.length = n)
  (hr : rinh Ps st n) {h : Nat} (hh : h < n) (hs : st.getD h 0 = 1) : ∃ ord : List Nat, findR n Ps st (h : Int) = (ord, minL n (edg Ps n 0) st (upE Ps h), ord, 0) ∧ minL n (edg Ps n 0) st (upE Ps h) ≠ [] := by
 obtain ⟨f1, f2⟩ := fnd_minL hPs h64 hV hlt h012 hst (inh_R hPs h64 hV hlt h012 hst hr) hh
 refine ⟨(fnd (anR n (ancW n (edg Ps n 0))) n (fun v => wat n (parW Ps) (v : Int)) st h (upE Ps h)).1.1, ?_, ?_⟩
 ·unfold findR
  rw [if_neg (by omega), Int.toNat_natCast, if_neg (fun hn => hn (by rw [nst_eq h012 hst hh]; exact hs)), if_pos f1, f2]
 ·subst hPs
  obtain ⟨w, _, hw⟩ := blame_ex h64 hlt hst hh ((upE_mem h64 hh).2 ⟨hh, .inl rfl⟩) hs
  intro he
  rw [he] at hw
  simp at hw
theorem set_012 {n : Nat} {st : List Int} (h012 : ∀ v, v < n → st.getD v 0 = 0 ∨ st.getD v 0 = 1 ∨ st.getD v 0 = 2) (h : Nat) : ∀ v, v < n → (st.set h 1).getD v 0 = 0 ∨ (st.set h 1).getD v 0 = 1 ∨ (st.set h 1).getD v 0 = 2 := by
 intro v hv
 rw [getD_set]
 split
 ·exact .inr (.inl rfl)
 ·exact h012 v hv
theorem exact_law (m : Nat) (l : List Int) (hm : l.length = m) (h1 : m ≤ 4611686018427387904) (hr : Rng l) (ms : Nat) (s : List Int) (hms : s.length = ms) (h2 : ms ≤ 4611686018427387904) (hs : Rng s)
  (head : Int) (hh0 : -9223372036854775808 ≤ head ∧ head ≤ 9223372036854775807) :
  Spec Try.prog 27 (inSt [.sl m (isl l), .sl ms (isl s), .v (.int .i64 head)] []) (outSt (.v (.bool true)) []) := by
 have hP := par32_spec m l hm h1 hr
 have hN := par32_near l
 obtain ⟨hn1, hn2⟩ := prM_pos l
 have hPn := par32_len l
 generalize par32 l = Ps at hP hN hPn
 generalize prM l = n at hP hPn hn1 hn2
 have hG : GG n Ps := hPn ▸ hN.gg
 have hst0 := status32_len Ps s true
 have h0120 := status_012 Ps s true
 have hSt := status_own n Ps hG ms s hms h2 hs true
 rw [hPn] at hst0 h0120
 generalize status32 Ps s true = st0 at hSt hst0 h0120
 have hn64 : n ≤ 64 := by omega
 obtain ⟨h, hh⟩ := Int.eq_ofNat_of_zero_le (around_lo head n (by omega))
 have hhn : h < n := by have := around_hi head n (by omega); omega
 have hlt : ∀ {a b : Nat}, Clo (edg Ps n 0) a b → a < b := fun hc => hN.lt (by rw [hPn]; exact hc)
 obtain ⟨st, hste⟩ : ∃ st, st = st0.set h 1 := ⟨_, rfl⟩
 have hst : st.length = n := by rw [hste, List.length_set]; exact hst0
 have h012 : ∀ v, v < n → st.getD v 0 = 0 ∨ st.getD v 0 = 1 ∨ st.getD v 0 = 2 := by rw [hste]; exact set_012 h0120 h
 have hsh : st.getD h 0 = 1 := by rw [hste, getD_set, if_pos ⟨rfl, by omega⟩]
 have hF := findR_spec hPn hn64 hG.V hlt st (by omega) (h : Int)
 have hx := fun hr => exact_R hPn hn64 hG.V hlt h012 hst hr hhn hsh
 have hI := inherited_spec n (parW Ps) (ancW n (edg Ps n 0)) (ancW_len _ _) hn64 (ancW_lt hn64 _) st hst
 have hii := inh_iff (Ps := Ps) (by omega) (st := st) (by omega)
 rw [hPn] at hii
 have hM := minN_spec hG st hst h
 have hAu := upE_len Ps h
 have hAl := minL_len n (edg Ps n 0) st (upE Ps h)
 have hA2 := fun i => minL_len2 n (edg Ps n 0) st (upE Ps h) i
 unfold findS at hF
 rw [hst] at hF
 generalize minL n (edg Ps n 0) st (upE Ps h) = AL at hx hM hA2 hAl
 refine Spec.ofN Try.func27 rfl Try.ntmps27 rfl ?_
 refine D_seq fun K1 hK1 => ?_
 refine D_region ?_
 refine DL_c (op_as _ (rfl : _ = AV.v (.bool _))) ?_
 refine DL_nil (hK1 _ ?_)
 clear hK1; try clear K1
 refine D_seq fun K2 hK2 => ?_
 refine D_region ?_
 refine DL_c (op_mv _ (rfl : _ = AV.sl _ _)) ?_
 refine DL_c (op_callH inferInstance (by repeat' (first | exact argsLv_nil | refine argsLv_cons ?_ ?_ | exact Lv.sl)) (hP) rfl rfl) ?_
 refine DL_c (op_as _ (rfl : _ = AV.sl _ _)) ?_
 refine DL_nil (hK2 _ ?_)
 clear hK2; try clear K2
 refine D_seq fun K3 hK3 => ?_
 refine D_region ?_
 refine DL_c (op_mv _ (rfl : _ = AV.sl _ _)) ?_
 refine DL_c (op_mv _ (rfl : _ = AV.sl _ _)) ?_
 refine DL_c (op_callR inferInstance [] ?_ (hSt.toI) trivial ⟨rfl, trivial⟩ (by kernel_rfl)) ?_
 ·repeat' (first | exact argsR_nil | refine argsR_cons ?_ ?_ | exact Lv.v | exact Lv.sl)
 refine DL_c (op_as _ (rfl : _ = AV.ref _ _ _)) ?_
 refine DL_nil (hK3 _ ?_)
 clear hK3; try clear K3
 refine D_seq fun K4 hK4 => ?_
 refine D_region ?_
 refine DL_c (op_mv _ (rfl : _ = AV.v (.int _ _))) ?_
 refine DL_c (op_mv _ (rfl : _ = AV.sl _ _)) ?_
 refine DL_c (op_lenS _ inferInstance rfl) ?_
 refine DL_c (op_callH inferInstance (by repeat' (first | exact argsLv_nil | refine argsLv_cons ?_ ?_ | exact Lv.v)) (hh ▸ around_spec head n (by omega) (by omega) hh0.1 hh0.2) rfl rfl) ?_
 refine DL_c (op_as _ (rfl : _ = AV.v (.int _ _))) ?_
 refine DL_nil (hK4 _ ?_)
 clear hK4; try clear K4
 refine D_seq fun K5 hK5 => ?_
 refine D_region ?_
 refine DL_c (op_mv _ (rfl : _ = AV.ref _ _ _)) ?_
 refine DL_c (op_mv _ (rfl : _ = AV.v (.int _ _))) ?_
 refine DL_c (op_ixR _ _ inferInstance rfl rfl rfl h rfl (by omega) (by exact (Nat.zero_add _).trans (Nat.mul_one _))) ?_
 refine DL_c (op_stR _ _ inferInstance rfl rfl rfl rfl rfl (by rw [isl_len]; simp only [List.length_cons, List.length_nil]; omega) ((isl_put _ _ _ (by omega)).trans (by rw [← hste]))) ?_
 refine DL_nil (hK5 _ ?_)
 clear hK5; try clear K5
 refine D_seq fun K6 hK6 => ?_
 refine D_le (Le.frzS (ys := isl st) 8 (rfl : _ = AV.ref _ _ _) rfl rfl (by rw [List.drop_zero, Nat.mul_one, List.take_of_length_le (by rw [isl_len]; omega)]) (by rw [isl_len]; omega)) ?_
 refine D_region ?_
 refine DL_c (op_mv _ (rfl : _ = AV.sl _ _)) ?_
 refine DL_c (op_callH inferInstance (by repeat' (first | exact argsLv_nil | refine argsLv_cons ?_ ?_ | exact Lv.sl)) (newN_spec hN hPn) rfl rfl) ?_
 refine DL_c (op_mv _ (rfl : _ = AV.tup _)) ?_
 refine DL_c (op_ext _ rfl (rfl : _ = some (AV.fp _ _))) ?_
 refine DL_c (op_ext _ rfl (rfl : _ = some (AV.v (.int _ _)))) ?_
 refine DL_c (op_as _ (rfl : _ = AV.fp _ _)) ?_
 refine DL_c (op_as _ (rfl : _ = AV.v (.int _ _))) ?_
 refine DL_nil (hK6 _ ?_)
 clear hK6; try clear K6
 refine D_seq fun K7 hK7 => ?_
 refine D_seq fun K8 hK8 => ?_
 refine D_le (σ' := mkStI 108 [(8, _), (9, _), (10, _), (11, _)] [] [] []) (by
  refine Le.mkJ [] [] rfl ?_ ?_ trivial trivial ?_
  ·exact ⟨(iS rfl), (iV rfl), (iF rfl), (iV rfl), trivial⟩
  ·exact trivial
  ·kernel_rfl) ?_
 refine D_region ?_
 refine DL_c (op_mv _ (rfl : _ = AV.fp _ _)) ?_
 refine DL_c (op_eqN _ _ (by kernel_rfl) (.inr ⟨_, _, rfl⟩) rfl) ?_
 refine DL_c (op_mv _ (rfl : _ = AV.v (.bool _))) ?_
 refine DL_cy rfl rfl (op_mv _ (rfl : _ = AV.v (.int _ _))) ?_
 refine DL_cy rfl rfl (op_neq (r := false) _ _ rfl rfl rfl) ?_
 refine DL_c (op_pick (b := false) _ _ _ rfl rfl) ?_
 refine DL_nil (hK8 _ ?_)
 clear hK8; try clear K8
 refine D_cF rfl rfl ?_
 refine D_skip (hK7 _ ?_)
 clear hK7; try clear K7
 refine D_seq fun K9 hK9 => ?_
 refine D_seq fun K10 hK10 => ?_
 refine D_region ?_
 refine DL_c (op_mv _ (rfl : _ = AV.fp _ _)) ?_
 refine DL_c (op_mv _ (rfl : _ = AV.sl _ _)) ?_
 refine DL_c (op_callH inferInstance (by repeat' (first | exact argsLv_nil | refine argsLv_cons ?_ ?_ | exact Lv.sl | exact Lv.fp)) (hI) rfl rfl) ?_
 refine DL_c (op_not _ rfl rfl) ?_
 refine DL_nil (hK10 _ ?_)
 clear hK10; try clear K10
 refine D_splitC rfl (fun hc44 => ?_) (fun hc44 => ?_)
 ·skip
  refine D_seq fun K11 hK11 => ?_
  refine D_region ?_
  refine DL_c (op_callH inferInstance (by repeat' (exact argsLv_nil)) (lives33_spec) rfl rfl) ?_
  refine DL_c (op_as _ (rfl : _ = AV.v (.bool _))) ?_
  refine DL_nil (hK11 _ ?_)
  clear hK11; try clear K11
  refine D_ret ?_
  refine ret1 (.inr rfl) rfl (.tmp (rfl : _ = AV.v (.bool _))) (Le.out [] [] (lvB ?_) rfl rfl rfl trivial trivial)
  rfl
 ·skip
  obtain ⟨ord, hrr, hne⟩ := hx (hii.1 hc44)
  rw [hrr] at hF
  simp only at hF
  have hA0 : 0 < AL.length := by
   cases AL with
   | nil => exact absurd rfl hne
   | cons a b => simp
  refine D_skip (hK9 _ ?_)
  clear hK9; try clear K9
  refine D_seq fun K12 hK12 => ?_
  refine D_region ?_
  refine DL_c (op_mv _ (rfl : _ = AV.sl _ _)) ?_
  refine DL_c (op_build _ inferInstance rfl (by exact (rfl : _ = some [_, _]))) ?_
  refine DL_c (op_box (48, 0) _ rfl rfl) ?_
  refine DL_c (op_as _ (rfl : _ = AV.ptr _ _)) ?_
  refine DL_nil (hK12 _ ?_)
  clear hK12; try clear K12
  refine D_seq fun K13 hK13 => ?_
  refine D_region ?_
  refine DL_c (op_mv _ (rfl : _ = AV.fp _ _)) ?_
  refine DL_c (op_mv _ (rfl : _ = AV.v (.int _ _))) ?_
  refine DL_c (op_mv _ (rfl : _ = AV.ptr _ _)) ?_
  refine DL_c (op_mf _ _ (rfl : _ = [_]) (rfl : _ = [])) ?_
  refine DL_c (op_callP inferInstance [((3, 9), (48, 0)), ((4, 8), (60, 0))] ?_ (hF) ⟨⟨rfl, ⟨_, rfl, .box rfl (lv_cons .sl (lv_cons .v lv_nil))⟩, rfl⟩, trivial⟩ ⟨rfl, rfl, trivial⟩ (by kernel_rfl)) ?_
  ·repeat' (first | exact argsR_nil | refine argsR_cons ?_ ?_ | exact Lv.v | exact Lv.fp | exact lvPr rfl | refine Lv.fn rfl ?_ rfl ?_ | exact lv_nil | refine lv_cons ?_ ?_)
  refine DL_c (op_mv _ (rfl : _ = AV.tup _)) ?_
  refine DL_c (op_ext _ rfl (rfl : _ = some (AV.sl _ _))) ?_
  refine DL_c (op_ext _ rfl (rfl : _ = some (AV.sl _ _))) ?_
  refine DL_c (op_ext _ rfl (rfl : _ = some (AV.v (.int _ _)))) ?_
  refine DL_c (op_as _ (rfl : _ = AV.sl _ _)) ?_
  refine DL_c (op_as _ (rfl : _ = AV.sl _ _)) ?_
  refine DL_c (op_as _ (rfl : _ = AV.v (.int _ _))) ?_
  refine DL_nil (hK13 _ ?_)
  clear hK13; try clear K13
  refine D_seq fun K14 hK14 => ?_
  refine D_le (σ' := mkStI 108 [(8, _), (9, _), (10, _), (13, _), (15, _)] [] [] []) (by
   refine Le.mkJ [] [] rfl ?_ ?_ trivial trivial ?_
   ·exact ⟨(iS rfl), (iV rfl), (iF rfl), (iS rfl), (iV rfl), trivial⟩
   ·exact trivial
   ·kernel_rfl) ?_
  refine D_region ?_
  refine DL_c (op_mv _ (rfl : _ = AV.fp _ _)) ?_
  refine DL_c (op_mv _ (rfl : _ = AV.v (.int _ _))) ?_
  refine DL_c (op_mv _ (rfl : _ = AV.sl _ _)) ?_
  refine DL_c (op_callH inferInstance (by repeat' (first | exact argsLv_nil | refine argsLv_cons ?_ ?_ | exact Lv.v | exact Lv.sl | exact Lv.fp)) (hM) rfl rfl) ?_
  refine DL_c (op_as _ (rfl : _ = AV.sl _ _)) ?_
  refine DL_nil (hK14 _ ?_)
  clear hK14; try clear K14
  refine D_seq fun K15 hK15 => ?_
  refine D_seq fun K16 hK16 => ?_
  refine D_region ?_
  refine DL_c (op_mv _ (rfl : _ = AV.v (.int _ _))) ?_
  refine DL_c (op_neq (r := false) _ _ rfl rfl rfl) ?_
  refine DL_c (op_mv _ (rfl : _ = AV.v (.bool _))) ?_
  refine DL_cy rfl rfl (op_mv _ (rfl : _ = AV.sl _ _)) ?_
  refine DL_cy rfl rfl (op_lenS _ inferInstance rfl) ?_
  refine DL_cy rfl rfl (op_mv _ (rfl : _ = AV.sl _ _)) ?_
  refine DL_cy rfl rfl (op_lenS _ inferInstance rfl) ?_
  refine DL_cy rfl rfl (op_neq (r := false) _ _ rfl rfl (by exact bne_self_eq_false _)) ?_
  refine DL_c (op_pick _ _ _ rfl (rfl : _ = AV.v (.bool _))) ?_
  refine DL_c (op_mv _ (rfl : _ = AV.v (.bool _))) ?_
  refine DL_cy rfl rfl (op_mv _ (rfl : _ = AV.sl _ _)) ?_
  refine DL_cy rfl rfl (op_lenS _ inferInstance rfl) ?_
  refine DL_cy rfl rfl (op_eql (r := false) _ _ rfl rfl (by rw [beq_eq_false_iff_ne]; omega)) ?_
  refine DL_c (op_pick (b := false) _ _ _ rfl rfl) ?_
  refine DL_nil (hK16 _ ?_)
  clear hK16; try clear K16
  refine D_cF rfl rfl ?_
  refine D_skip (hK15 _ ?_)
  clear hK15; try clear K15
  refine D_seq fun K17 hK17 => ?_
  refine D_seq fun K18 hK18 => ?_
  refine D_le (σ' := mkStI 108 [(13, _), (16, _)] [] [] []) (by
   refine Le.mkJ [] [] rfl ?_ ?_ trivial trivial ?_
   ·exact ⟨(iS rfl), (iS rfl), trivial⟩
   ·exact trivial
   ·kernel_rfl) ?_
  refine D_region ?_
  refine DL_c (op_as _ (rfl : _ = AV.v (.int _ _))) ?_
  refine DL_nil (hK18 _ ?_)
  clear hK18; try clear K18
  refine D_block ?_
  refine D_loopL (α := Nat) (fun i => i ≤ AL.length) 108 [(13, _), (16, _)] [] (fun i => [(17, .v (.int .i64 (i : Int)))]) (fun i => []) [] [] (fun i => AL.length - i) 0 ?_ (by
   refine Le.mkJ [] [] rfl ?_ ?_ trivial trivial ?_
   ·exact ⟨(iS rfl), (iS rfl), (lvI (by rfl)), trivial⟩
   ·exact trivial
   ·kernel_rfl) ?_
  ·omega
  intro i hi
  refine D_seq fun K19 hK19 => ?_
  refine D_seq fun K20 hK20 => ?_
  refine D_region ?_
  refine DL_c (op_mv _ (rfl : _ = AV.v (.int _ _))) ?_
  refine DL_c (op_mv _ (rfl : _ = AV.sl _ _)) ?_
  refine DL_c (op_lenS _ inferInstance rfl) ?_
  refine DL_c (op_lss _ _ rfl rfl rfl) ?_
  refine DL_nil (hK20 _ ?_)
  clear hK20; try clear K20
  refine D_splitC rfl (fun hc79 => ?_) (fun hc79 => ?_)
  ·skip
   have ha2 := hA2 i
   have hsm := same_spec (AL.getD i (0, [])).2.length (AL.getD i (0, [])).2.length ((AL.getD i (0, [])).2.map fun (x : Nat) => (x : Int)) ((AL.getD i (0, [])).2.map fun (x : Nat) => (x : Int)) (by simp) (by simp) (by omega) (by omega)
   rw [decide_eq_true rfl] at hsm
   refine D_skip (hK19 _ ?_)
   clear hK19; try clear K19
   refine D_seq fun K21 hK21 => ?_
   refine D_block ?_
   refine D_seq fun K22 hK22 => ?_
   refine D_le (σ' := mkStI 108 [(13, _), (16, _), (17, _)] [] [] []) (by
    refine Le.mkJ [] [] rfl ?_ ?_ trivial trivial ?_
    ·exact ⟨(iS rfl), (iS rfl), (iV rfl), trivial⟩
    ·exact trivial
    ·kernel_rfl) ?_
   refine D_anyL 25 [82, 83, 84, 85, 86, 87, 88, 89, 90, 91, 92, 93, 94, 95, 96, 97, 98, 99, 100, 101, 102, 103, 104, 105, 106] [] (by kernel_rfl) (by kernel_rfl) rfl (nodupO_iff rfl) (rfl : _ = [_, _, _, _, _, _, _, _, _, _, _, _, _, _, _, _, _, _, _, _, _, _, _, _, _]) (rfl : _ = []) ?_
   refine any_c (_, []) (fun τ => op_mv _ (rfl : _ = AV.sl _ _)) ?_
   refine any_n (rfl : _ = [_]) ?_
   refine any_c (_, []) (fun τ => op_mv _ (rfl : _ = AV.v (.int _ _))) ?_
   refine any_n (rfl : _ = [_, _]) ?_
   refine any_c (_, []) (fun τ => op_ixS _ _ inferInstance rfl rfl _ rfl (by omega) (by (simp only [isl_len, bsl_len, psl_len, mrows_len, nsl_len, ws_len, List.length_map, ul_len, psl_len, isl_len, nrows_len, mmap_len, smap_len, dcl_len, blR_len, prL_len, stK_len, inh1_len, st0_len, status32_len]; omega)) (by rfl)) ?_
   refine any_n (rfl : _ = [_, _, _]) ?_
   refine any_c (_, []) (fun τ => op_fldF _ inferInstance rfl rfl) ?_
   refine any_n (rfl : _ = [_, _, _, _]) ?_
   refine any_c (_, []) (fun τ => op_ldF _ inferInstance rfl (by exact blR_get0 _ _ (by omega)) rfl) ?_
   refine any_n (rfl : _ = [_, _, _, _, _]) ?_
   refine any_c (_, []) (fun τ => op_mv _ (rfl : _ = AV.sl _ _)) ?_
   refine any_n (rfl : _ = [_, _, _, _, _, _]) ?_
   refine any_c (_, []) (fun τ => op_mv _ (rfl : _ = AV.v (.int _ _))) ?_
   refine any_n (rfl : _ = [_, _, _, _, _, _, _]) ?_
   refine any_c (_, []) (fun τ => op_ixS _ _ inferInstance rfl rfl _ rfl (by omega) (by (simp only [isl_len, bsl_len, psl_len, mrows_len, nsl_len, ws_len, List.length_map, ul_len, psl_len, isl_len, nrows_len, mmap_len, smap_len, dcl_len, blR_len, prL_len, stK_len, inh1_len, st0_len, status32_len]; omega)) (by rfl)) ?_
   refine any_n (rfl : _ = [_, _, _, _, _, _, _, _]) ?_
   refine any_c (_, []) (fun τ => op_fldF _ inferInstance rfl rfl) ?_
   refine any_n (rfl : _ = [_, _, _, _, _, _, _, _, _]) ?_
   refine any_c (_, []) (fun τ => op_ldF _ inferInstance rfl (by exact blR_get0 _ _ (by omega)) rfl) ?_
   refine any_n (rfl : _ = [_, _, _, _, _, _, _, _, _, _]) ?_
   refine any_c (_, []) (fun τ => op_neq (r := false) _ _ rfl rfl (by exact bne_self_eq_false _)) ?_
   refine any_n (rfl : _ = [_, _, _, _, _, _, _, _, _, _, _]) ?_
   refine any_c (_, []) (fun τ => op_mv _ (rfl : _ = AV.v (.bool _))) ?_
   refine any_n (rfl : _ = [_, _, _, _, _, _, _, _, _, _, _, _]) ?_
   refine any_cy (_, []) rfl (fun τ => rfl) (fun τ => op_mv _ (rfl : _ = AV.sl _ _)) ?_
   refine any_n (rfl : _ = [_, _, _, _, _, _, _, _, _, _, _, _, _]) ?_
   refine any_cy (_, []) rfl (fun τ => rfl) (fun τ => op_mv _ (rfl : _ = AV.v (.int _ _))) ?_
   refine any_n (rfl : _ = [_, _, _, _, _, _, _, _, _, _, _, _, _, _]) ?_
   refine any_cy (_, []) rfl (fun τ => rfl) (fun τ => op_ixS _ _ inferInstance rfl rfl _ rfl (by omega) (by (simp only [isl_len, bsl_len, psl_len, mrows_len, nsl_len, ws_len, List.length_map, ul_len, psl_len, isl_len, nrows_len, mmap_len, smap_len, dcl_len, blR_len, prL_len, stK_len, inh1_len, st0_len, status32_len]; omega)) (by rfl)) ?_
   refine any_n (rfl : _ = [_, _, _, _, _, _, _, _, _, _, _, _, _, _, _]) ?_
   refine any_cy (_, []) rfl (fun τ => rfl) (fun τ => op_fldF _ inferInstance rfl rfl) ?_
   refine any_n (rfl : _ = [_, _, _, _, _, _, _, _, _, _, _, _, _, _, _, _]) ?_
   refine any_cy (_, []) rfl (fun τ => rfl) (fun τ => op_ldF _ inferInstance rfl (by exact blR_get1 _ _ (by omega)) rfl) ?_
   refine any_n (rfl : _ = [_, _, _, _, _, _, _, _, _, _, _, _, _, _, _, _, _]) ?_
   refine any_cy (_, []) rfl (fun τ => rfl) (fun τ => op_mv _ (rfl : _ = AV.sl _ _)) ?_
   refine any_n (rfl : _ = [_, _, _, _, _, _, _, _, _, _, _, _, _, _, _, _, _, _]) ?_
   refine any_cy (_, []) rfl (fun τ => rfl) (fun τ => op_mv _ (rfl : _ = AV.v (.int _ _))) ?_
   refine any_n (rfl : _ = [_, _, _, _, _, _, _, _, _, _, _, _, _, _, _, _, _, _, _]) ?_
   refine any_cy (_, []) rfl (fun τ => rfl) (fun τ => op_ixS _ _ inferInstance rfl rfl _ rfl (by omega) (by (simp only [isl_len, bsl_len, psl_len, mrows_len, nsl_len, ws_len, List.length_map, ul_len, psl_len, isl_len, nrows_len, mmap_len, smap_len, dcl_len, blR_len, prL_len, stK_len, inh1_len, st0_len, status32_len]; omega)) (by rfl)) ?_
   refine any_n (rfl : _ = [_, _, _, _, _, _, _, _, _, _, _, _, _, _, _, _, _, _, _, _]) ?_
   refine any_cy (_, []) rfl (fun τ => rfl) (fun τ => op_fldF _ inferInstance rfl rfl) ?_
   refine any_n (rfl : _ = [_, _, _, _, _, _, _, _, _, _, _, _, _, _, _, _, _, _, _, _, _]) ?_
   refine any_cy (_, []) rfl (fun τ => rfl) (fun τ => op_ldF _ inferInstance rfl (by exact blR_get1 _ _ (by omega)) rfl) ?_
   refine any_n (rfl : _ = [_, _, _, _, _, _, _, _, _, _, _, _, _, _, _, _, _, _, _, _, _, _]) ?_
   refine any_cy (_, []) rfl (fun τ => rfl) (fun τ => (op_callH inferInstance (by repeat' (first | exact argsLv_nil | refine argsLv_cons ?_ ?_ | exact Lv.sl)) (hsm) rfl rfl)) ?_
   refine any_n (rfl : _ = [_, _, _, _, _, _, _, _, _, _, _, _, _, _, _, _, _, _, _, _, _, _, _]) ?_
   refine any_cy (_, []) rfl (fun τ => rfl) (fun τ => op_not (r := false) _ rfl rfl) ?_
   refine any_n (rfl : _ = [_, _, _, _, _, _, _, _, _, _, _, _, _, _, _, _, _, _, _, _, _, _, _, _]) ?_
   refine any_c (_, []) (fun τ => op_pick (b := false) _ _ _ rfl rfl) ?_
   refine any_n (rfl : _ = [_, _, _, _, _, _, _, _, _, _, _, _, _, _, _, _, _, _, _, _, _, _, _, _, _]) ?_
   refine any_end ⟨rfl, ?_⟩
   refine DL_nil (hK22 _ ?_)
   clear hK22; try clear K22
   refine D_cF rfl rfl ?_
   refine D_skip (hK21 _ ?_)
   clear hK21; try clear K21
   refine D_le (σ' := mkStI 108 [(13, _), (16, _), (17, _)] [] [] []) (by
    refine Le.mkJ [] [] rfl ?_ ?_ trivial trivial ?_
    ·exact ⟨(iS rfl), (iS rfl), (iV rfl), trivial⟩
    ·exact trivial
    ·kernel_rfl) ?_
   refine D_region ?_
   refine DL_c (op_mv _ (rfl : _ = AV.v (.int _ _))) ?_
   refine DL_c (op_add _ _ rfl rfl (i64w (by omega))) ?_
   refine DL_c (op_as _ (rfl : _ = AV.v (.int _ _))) ?_
   refine DL_nil ?_
   refine ⟨i + 1, ?_, ?_, ?_⟩
   ·omega
   ·skip
    refine Le.mkJ [] [] rfl ?_ ?_ trivial trivial ?_
    ·exact ⟨(iS rfl), (iS rfl), (lvI (by rfl)), trivial⟩
    ·exact trivial
    ·kernel_rfl
   ·omega
  ·skip
   refine D_exit ?_
   refine id (hK17 _ ?_)
   clear hK17; try clear K17
   refine D_seq fun K23 hK23 => ?_
   refine D_region ?_
   refine DL_c (op_callH inferInstance (by repeat' (exact argsLv_nil)) (lives33_spec) rfl rfl) ?_
   refine DL_c (op_as _ (rfl : _ = AV.v (.bool _))) ?_
   refine DL_nil (hK23 _ ?_)
   clear hK23; try clear K23
   refine D_ret ?_
   refine ret1 (.inr rfl) rfl (.tmp (rfl : _ = AV.v (.bool _))) (Le.out [] [] (lvB ?_) rfl rfl rfl trivial trivial)
   rfl
end Go.Proofs.Ytkbkmngbenohkaa
