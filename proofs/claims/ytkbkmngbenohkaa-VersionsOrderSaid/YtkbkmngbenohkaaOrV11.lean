/- The order of the versions: pairs turned about, what can be reached. Plain Lean; no program. -/
import Derived.Test.YtkbkmngbenohkaaOrX4
import Derived.Test.YtkbkmngbenohkaaOrG6
set_option linter.unusedSimpArgs false
set_option linter.unusedVariables false
namespace Go.Proofs.Ytkbkmngbenohkaa
open Go.RowKit

def swP (E : Prs) : Prs := E.map fun p => (p.2, p.1)
theorem swP_mem {E : Prs} {a b : Int} : (a, b) ∈ swP E ↔ (b, a) ∈ E := by
  simp only [swP, List.mem_map, Prod.mk.injEq]
  constructor
  · rintro ⟨p, hp, h1, h2⟩
    have : p = (b, a) := Prod.ext h2 h1
    exact this ▸ hp
  · exact fun h => ⟨_, h, rfl, rfl⟩
theorem swP_clo {E : Prs} {a b : Nat} : Clo (swP E) a b ↔ Clo E b a := by
  constructor
  · intro h
    induction h with
    | one h => exact .one (swP_mem.1 h)
    | more h _ ih => exact Clo.snoc (.inr ih) (swP_mem.1 h)
  · intro h
    induction h with
    | one h => exact .one (swP_mem.2 h)
    | more h _ ih => exact Clo.snoc (.inr ih) (swP_mem.2 h)
theorem swP_in {n : Nat} {E : Prs} (h : inE n E = true) : inE n (swP E) = true := by
  refine List.all_eq_true.2 fun x hx => ?_
  have := inE_mem h (swP_mem.1 (show (x.1, x.2) ∈ swP E from hx))
  simp only [Bool.and_eq_true, decide_eq_true_eq]
  simp only at this
  omega
theorem swP_app (E F : Prs) : swP (E ++ F) = swP E ++ swP F := by simp [swP]
theorem nxt_sw1 (l : List Int) (v a : Nat) : nxt (swP (l.map fun p => (p, (v : Int)))) a = if v = a then l else [] := by
  unfold nxt swP
  rw [List.map_map, List.filter_map, List.map_map]
  by_cases h : v = a
  · subst h
    rw [if_pos rfl]
    have : (List.filter ((fun p : Int × Int => p.1 == (v : Int)) ∘ ((fun p : Int × Int => (p.2, p.1)) ∘ fun p => (p, (v : Int)))) l) = l := List.filter_eq_self.2 fun _ _ => by simp
    rw [this]
    have h2 : ((fun x : Int × Int => x.2) ∘ ((fun p : Int × Int => (p.2, p.1)) ∘ fun p : Int => (p, (v : Int)))) = id := rfl
    rw [h2, List.map_id]
  · rw [if_neg h]
    have : (List.filter ((fun p : Int × Int => p.1 == (a : Int)) ∘ ((fun p : Int × Int => (p.2, p.1)) ∘ fun p => (p, (v : Int)))) l) = [] := List.filter_eq_nil_iff.2 fun _ _ => by simp; omega
    rw [this]; rfl
/-- What a version leads to, turned about: its parents. -/
theorem nxt_sw {Ps : List (List Int)} (a : Nat) : ∀ n, nxt (swP (edg Ps n 0)) a = if a < n then Ps.getD a [] else []
  | 0 => by simp [edg, swP, nxt]
  | n + 1 => by
    have e : edg Ps (n + 1) 0 = edg Ps n 0 ++ (Ps.getD n []).map fun p => (p, (n : Int)) := by
      rw [← edg_next]; simp [edg]
    rw [e, swP_app, nxt_append, nxt_sw a n, nxt_sw1]
    by_cases h1 : a < n
    · rw [if_pos h1, if_neg (by omega), if_pos (by omega), List.append_nil]
    · rw [if_neg h1]
      by_cases h2 : n = a
      · subst h2; rw [if_pos rfl, if_pos (by omega)]; rfl
      · rw [if_neg h2, if_neg (by omega)]; rfl
theorem clo_congr {E F : Prs} (h : ∀ a b : Nat, ((a : Int), (b : Int)) ∈ E ↔ ((a : Int), (b : Int)) ∈ F) {a b : Nat} : Clo E a b ↔ Clo F a b := by
  constructor
  · intro hc
    induction hc with
    | one he => exact .one ((h _ _).1 he)
    | more he _ ih => exact .more ((h _ _).1 he) ih
  · intro hc
    induction hc with
    | one he => exact .one ((h _ _).2 he)
    | more he _ ih => exact .more ((h _ _).2 he) ih
/-- What can be reached over the turned pairs is what stands above. -/
theorem reach_up {n : Nat} {Ps : List (List Int)} (hG : GG n Ps) {v : Nat} (hv : v < n) : rchL n (nxS n (swP (edg Ps n 0))) v = upE Ps v := by
  have hE : inE n (edg Ps n 0) = true := by have := edg_in hG.V; rw [hG.len] at this; exact this
  have hU := swP_in hE
  have hse := nxS_se hU
  have hSb : ∀ a, a < n → ∀ w ∈ (nxS n (swP (edg Ps n 0))).getD a [], 0 ≤ w ∧ w < (n : Int) := fun a ha w hw => by
    have := inE_mem hU ((hse.m a ha w).1 hw)
    exact ⟨this.2.2.1, this.2.2.2⟩
  have h1 := upE_eq (Ps := Ps) (by rw [hG.len]; exact hG.n64) (v := v) (by rw [hG.len]; exact hv)
  rw [h1, hG.len]
  unfold rchL snL
  refine List.filter_congr fun x hx => ?_
  rw [Bool.eq_iff_iff, vis_all hSb hv, Bool.or_eq_true, decide_eq_true_eq, cl_iff]
  refine or_congr_right ?_
  refine (clo_congr fun a b => ?_).trans swP_clo
  rw [sE_mem]
  constructor
  · rintro ⟨h2, h3⟩; exact (hse.m a h2 _).1 h3
  · intro h2
    have := (Clo.lt hU (.one h2)).1
    exact ⟨this, (hse.m a this _).2 h2⟩
theorem cloW_words {n : Nat} (hn : n ≤ 64) (E : Prs) : Words n (cloW n E) := by
  refine ⟨by simp [cloW], hn, fun w hw => ?_⟩
  obtain ⟨a, _, rfl⟩ := List.mem_map.1 hw
  exact cw_lt n _ hn
theorem oless_cl {n : Nat} {E : Prs} {u v : Nat} (hu : u < n) (hv : v < n) : oless n (cloW n E) u v = cl E u v := by
  rw [oless_nat n _ u v hu hv, cloW_lt hu hv]
end Go.Proofs.Ytkbkmngbenohkaa
