/- Blames under new numbers. Plain Lean; no program. -/
import Derived.Test.YtkbkmngbenohkaaReV8
set_option linter.unusedSimpArgs false
set_option linter.unusedVariables false
namespace Go.Proofs.Ytkbkmngbenohkaa
open Go.RowKit

theorem upE_ren {Ps : List (List Int)} {to : List Nat} (h : Pm Ps.length to) (hV : Valid Ps) (h64 : Ps.length ≤ 64) {u v : Nat} (hu : u < Ps.length) (hv : v < Ps.length) : to.getD u 0 ∈ upE (ren32 Ps to) (to.getD v 0) ↔ u ∈ upE Ps v := by
  have h1 := upE_mem (Ps := ren32 Ps to) (by rw [ren32_len]; exact h64) (v := to.getD v 0) (u := to.getD u 0) (by rw [ren32_len]; exact h.at_lt hv)
  rw [ren32_len, ren32_cl h hV hu hv] at h1
  rw [h1, upE_mem h64 hv]
  constructor
  · rintro ⟨_, h2⟩
    refine ⟨hu, ?_⟩
    rcases h2 with h2 | h2
    · exact .inl (h.inj hu hv h2)
    · exact .inr h2
  · rintro ⟨_, h2⟩
    refine ⟨h.at_lt hu, ?_⟩
    rcases h2 with rfl | h2
    · exact .inl rfl
    · exact .inr h2
theorem upE_ren_lt {Ps : List (List Int)} {to : List Nat} (h : Pm Ps.length to) (h64 : Ps.length ≤ 64) {x v : Nat} (hv : v < Ps.length) (hx : x ∈ upE (ren32 Ps to) v) : x < Ps.length := by
  have h1 := (upE_mem (Ps := ren32 Ps to) (by rw [ren32_len]; exact h64) (v := v) (by rw [ren32_len]; exact hv)).1 hx
  rw [ren32_len] at h1
  exact h1.1
/-- The statuses under new numbers, up to the k-th. -/
def tS (n : Nat) (to : List Nat) (st : List Int) (k : Nat) : List Int := (List.range n).map fun u => if to.idxOf u < k then st.getD (to.idxOf u) 0 else 0
@[simp] theorem tS_len (n : Nat) (to : List Nat) (st : List Int) (k : Nat) : (tS n to st k).length = n := by simp [tS]
theorem tS_zero (n : Nat) (to : List Nat) (st : List Int) : tS n to st 0 = List.replicate n 0 := by
  apply List.ext_getElem
  · simp
  · intro i h1 h2; simp [tS]
theorem tS_succ {n : Nat} {to : List Nat} (h : Pm n to) {st : List Int} {k : Nat} (hk : k < n) : tS n to st (k + 1) = (tS n to st k).set (to.getD k 0) (st.getD k 0) := by
  apply List.ext_getElem
  · simp
  · intro i h1 h2
    have hi : i < n := by simpa using h1
    rw [List.getElem_set]
    simp only [tS, List.getElem_map, List.getElem_range]
    by_cases h3 : to.getD k 0 = i
    · rw [if_pos h3, ← h3, h.idx hk, if_pos (Nat.lt_succ_self k)]
    · rw [if_neg h3]
      have h5 : to.idxOf i ≠ k := fun e => h3 (by rw [← e]; exact (h.back hi).2)
      by_cases h4 : to.idxOf i < k
      · rw [if_pos h4, if_pos (by omega)]
      · rw [if_neg h4, if_neg (by omega)]
theorem tS_get {n : Nat} {to : List Nat} (h : Pm n to) {st : List Int} {v : Nat} (hv : v < n) : (tS n to st n).getD (to.getD v 0) 0 = st.getD v 0 := by
  unfold tS
  rw [List.getD_eq_getElem?_getD, List.getElem?_map, List.getElem?_range (h.at_lt hv), Option.map_some, Option.getD_some, h.idx hv, if_pos hv]
theorem rmin_ren {Ps : List (List Int)} {to : List Nat} (h : Pm Ps.length to) (hV : Valid Ps) (h64 : Ps.length ≤ 64) {st : List Int} {v : Nat} (hv : v < Ps.length) : rmin (ren32 Ps to) (tS Ps.length to st Ps.length) (to.getD v 0) ↔ rmin Ps st v := by
  unfold rmin
  rw [tS_get h hv]
  refine and_congr_right fun _ => ⟨fun h1 u hu hne => ?_, fun h1 x hx hne => ?_⟩
  · have hun := ((upE_mem h64 hv).1 hu).1
    have := h1 _ ((upE_ren h hV h64 hun hv).2 hu) fun e => hne (h.inj hun hv e)
    rw [tS_get h hun] at this
    exact this
  · have hxn := upE_ren_lt h h64 (h.at_lt hv) hx
    obtain ⟨hi, hb⟩ := h.back hxn
    rw [← hb, tS_get h hi]
    rw [← hb] at hx hne
    exact h1 _ ((upE_ren h hV h64 hi hv).1 hx) fun e => hne (by rw [e])
theorem inh_ren {Ps : List (List Int)} {to : List Nat} (h : Pm Ps.length to) (hV : Valid Ps) (h64 : Ps.length ≤ 64) {st : List Int} (hst : st.length = Ps.length) :
    inhB Ps.length (ancW Ps.length (edg (ren32 Ps to) Ps.length 0)) (tS Ps.length to st Ps.length) = inhB Ps.length (ancW Ps.length (edg Ps Ps.length 0)) st := by
  have h2 := inh_iff (Ps := ren32 Ps to) (by rw [ren32_len]; exact h64) (st := tS Ps.length to st Ps.length) (by simp)
  rw [ren32_len] at h2
  rw [Bool.eq_iff_iff, h2, inh_iff h64 hst]
  constructor
  · intro h1 v hv hs u hu
    have hun := ((upE_mem h64 hv).1 hu).1
    have := h1 _ (h.at_lt hv) (by rw [tS_get h hv]; exact hs) _ ((upE_ren h hV h64 hun hv).2 hu)
    rw [tS_get h hun] at this
    exact this
  · intro h1 y hy hs x hx
    have hxn := upE_ren_lt h h64 hy hx
    obtain ⟨hi, hb⟩ := h.back hxn
    obtain ⟨hj, hc⟩ := h.back hy
    rw [← hb, tS_get h hi]
    rw [← hb, ← hc] at hx
    rw [← hc, tS_get h hj] at hs
    exact h1 _ hj hs _ ((upE_ren h hV h64 hi hj).1 hx)
/-- What the law looks at. -/
structure RN (n : Nat) (to : List Nat) (a b : List (Nat × List Nat)) : Prop where
  len : a.length = b.length
  av : ∀ i, i < a.length → (a.getD i (0, [])).1 < n
  asl : ∀ i, i < a.length → ∀ u ∈ (a.getD i (0, [])).2, u < n
  hit : ∀ i, i < a.length → ∃ j, j < b.length ∧ (b.getD j (0, [])).1 = to.getD (a.getD i (0, [])).1 0
  sus : ∀ i, i < a.length → ∀ j, j < b.length → (b.getD j (0, [])).1 = to.getD (a.getD i (0, [])).1 0 → ((b.getD j (0, [])).2.map fun (x : Nat) => (x : Int)) = ssrt ((a.getD i (0, [])).2.map fun u => ((to.getD u 0 : Nat) : Int))
theorem ren_rn {Ps : List (List Int)} {to : List Nat} (h : Pm Ps.length to) (hV : Valid Ps) (h64 : Ps.length ≤ 64) {st : List Int} (hst : st.length = Ps.length) {v : Nat} (hv : v < Ps.length) :
    RN Ps.length to (minL Ps.length (edg Ps Ps.length 0) st (upE Ps v)) (minL Ps.length (edg (ren32 Ps to) Ps.length 0) (tS Ps.length to st Ps.length) (upE (ren32 Ps to) (to.getD v 0))) := by
  have hlt : ∀ u ∈ upE Ps v, u < Ps.length := fun u hu => ((upE_mem h64 hv).1 hu).1
  have hlt' : ∀ u ∈ upE (ren32 Ps to) (to.getD v 0), u < Ps.length := fun u hu => upE_ren_lt h h64 (h.at_lt hv) hu
  have hri : ∀ {w : Nat}, w < Ps.length → ((aw1 Ps.length (edg (ren32 Ps to) Ps.length 0) (to.getD w 0) &&& whr (tS Ps.length to st Ps.length) 1) = 2 ^ (to.getD w 0) ↔ (aw1 Ps.length (edg Ps Ps.length 0) w &&& whr st 1) = 2 ^ w) := by
    intro w hw
    have h2 := rmin_iff (Ps := ren32 Ps to) (by rw [ren32_len]; exact h64) (st := tS Ps.length to st Ps.length) (by simp) (v := to.getD w 0) (by rw [ren32_len]; exact h.at_lt hw)
    rw [ren32_len] at h2
    rw [← h2, rmin_ren h hV h64 hw, rmin_iff h64 hst hw]
  have hperm : ((minL Ps.length (edg Ps Ps.length 0) st (upE Ps v)).map (·.1)).map (fun w => to.getD w 0) |>.Perm ((minL Ps.length (edg (ren32 Ps to) Ps.length 0) (tS Ps.length to st Ps.length) (upE (ren32 Ps to) (to.getD v 0))).map (·.1)) := by
    rw [minL_fst, minL_fst]
    refine (List.perm_ext_iff_of_nodup ?_ ((upE_nodup _ _).filter _)).2 fun x => ?_
    · rw [List.nodup_iff_pairwise_ne, List.pairwise_map]
      refine List.Pairwise.imp_of_mem ?_ (List.nodup_iff_pairwise_ne.1 ((upE_nodup Ps v).filter _))
      intro a b ha hb hne he
      exact hne (h.inj (hlt a (List.mem_filter.1 ha).1) (hlt b (List.mem_filter.1 hb).1) he)
    · rw [List.mem_map, List.mem_filter]
      constructor
      · rintro ⟨w, hw, rfl⟩
        obtain ⟨h1, h2⟩ := List.mem_filter.1 hw
        have hwn := hlt w h1
        exact ⟨(upE_ren h hV h64 hwn hv).2 h1, by rw [beq_iff_eq] at h2 ⊢; exact (hri hwn).2 h2⟩
      · rintro ⟨h1, h2⟩
        have hxn := hlt' x h1
        obtain ⟨hi, hb⟩ := h.back hxn
        rw [← hb] at h1 h2
        refine ⟨to.idxOf x, List.mem_filter.2 ⟨(upE_ren h hV h64 hi hv).1 h1, ?_⟩, hb⟩
        rw [beq_iff_eq] at h2 ⊢
        exact (hri hi).1 h2
  have hav : ∀ i, i < (minL Ps.length (edg Ps Ps.length 0) st (upE Ps v)).length → ((minL Ps.length (edg Ps Ps.length 0) st (upE Ps v)).getD i (0, [])).1 < Ps.length := fun i hi => hlt _ (minL_mem (getD_mem' (0, []) hi)).1
  refine ⟨by simpa using hperm.length_eq, hav, fun i hi u hu => ?_, fun i hi => ?_, fun i hi j hj he => ?_⟩
  · rw [(minL_mem (getD_mem' (0, []) hi)).2.2] at hu
    exact ((sus_mem h64).1 hu).1
  · have hm : to.getD ((minL Ps.length (edg Ps Ps.length 0) st (upE Ps v)).getD i (0, [])).1 0 ∈ ((minL Ps.length (edg Ps Ps.length 0) st (upE Ps v)).map (·.1)).map (fun w => to.getD w 0) :=
      List.mem_map.2 ⟨_, List.mem_map.2 ⟨_, getD_mem' (0, []) hi, rfl⟩, rfl⟩
    have h1 := hperm.mem_iff.1 hm
    obtain ⟨x, hx, hxe⟩ := List.mem_map.1 h1
    obtain ⟨j, hj, hje⟩ := List.getElem_of_mem hx
    exact ⟨j, hj, by rw [List.getD_eq_getElem?_getD, List.getElem?_eq_getElem hj, Option.getD_some, hje]; exact hxe⟩
  · have h1 := (minL_mem (getD_mem' (0, []) hi)).2.2
    have h2 := (minL_mem (getD_mem' (0, []) hj)).2.2
    have hwn := hav i hi
    rw [h2, h1, he]
    generalize ((minL Ps.length (edg Ps Ps.length 0) st (upE Ps v)).getD i (0, [])).1 = w at hwn
    have hT : ∀ a, a < Ps.length → (whr (tS Ps.length to st Ps.length) 2).testBit (to.getD a 0) = (whr st 2).testBit a := by
      intro a ha
      rw [whr2_bit (by rw [tS_len]; exact h.at_lt ha), whr2_bit (by omega), tS_get h ha]
    rw [ssrt_srt, susW, els_cw h64]
    symm
    refine srt_set ⟨?_, fun p hp => ?_⟩ _ fun x hx => ?_
    · rw [List.nodup_iff_pairwise_ne, List.pairwise_map]
      refine List.Pairwise.imp_of_mem ?_ (List.nodup_iff_pairwise_ne.1 (List.Pairwise.filter _ List.nodup_range))
      intro a b ha hb hne hab
      have h3 := ((sus_mem h64).1 ha).1
      have h4 := ((sus_mem h64).1 hb).1
      exact hne (h.inj h3 h4 (by omega))
    · obtain ⟨u, hu, rfl⟩ := List.mem_map.1 hp
      have := h.at_lt ((sus_mem h64).1 hu).1
      omega
    · rw [cl_iff, List.mem_map]
      constructor
      · rintro ⟨u, hu, hue⟩
        obtain ⟨h3, h4⟩ := (sus_mem h64).1 hu
        have : x = to.getD u 0 := by omega
        rw [this]
        exact (ren32_clo h hV _ _ hT h3 hwn).2 h4
      · intro hc
        obtain ⟨hi2, hb2⟩ := h.back hx
        rw [← hb2] at hc
        exact ⟨to.idxOf x, (sus_mem h64).2 ⟨hi2, (ren32_clo h hV _ _ hT hi2 hwn).1 hc⟩, by rw [hb2]⟩
end Go.Proofs.Ytkbkmngbenohkaa
