/- The machine's rules: nil in a box's cell as a slice of its own, or as a slice that is only read. No program text. -/
import Derived.Test.YtphlaojoehmhaaaDLib15
set_option linter.unusedSimpArgs false
set_option linter.unusedVariables false
namespace Go.Proofs.Ytphlaojoehmhaaa
open Go.RowKit

theorem Le.nilB {σ : St} (ib : Oid) (j : Nat) (id : Oid) (e : TypeId) (sz : Nat) {T : TypeId} {cs : List AV} (hb : σ.ob ib = .obj (.box T cs)) (hr : cs[j]? = some (.v (.slice none 0 0))) (hid : σ.ob id = .free) :
    Le ((σ.setOb id (.obj (.row e sz []))).setOb ib (.obj (.box T (cs.set j (.ref id 0 0))))) σ := by
  intro K ι S a w R
  have R1 := R.new (w' := w) (o := .row e sz []) (B := ⟨none, 0, sz⟩) hid (below_self w) (fun k hk => by cases hk) ⟨_, setI_same _ _ _, rfl, .inl ⟨rfl, rfl, rfl⟩⟩ (fun i hi => hi.elim)
  have hne : ib ≠ id := fun h => by rw [h, hid] at hb; cases hb
  have hb1 : (σ.setOb id (.obj (.row e sz []))).ob ib = .obj (.box T cs) := by rw [St.setOb_ne _ _ hne]; exact hb
  obtain ⟨B, g, h1, h2, h3, h4⟩ := R1.ob ib _ hb1
  refine ⟨_, S, R1.upd hb1 h1 (.of_below (below_self w)) ⟨B, g, h1, h2, by simpa using h3, ?_⟩ ?_⟩
  · rw [List.length_set]
    refine h4.next (fun _ _ => rfl) fun k u hu x hx => ?_
    by_cases hk : j = k
    · subst hk
      have := (hu _ hr).toV
      subst this
      rw [List.getElem?_set_self (List.getElem?_eq_some_iff.1 hr).1] at hx
      cases hx
      refine .ref (fun B' hB => ?_) rfl
      rw [setI_same] at hB
      obtain rfl := Option.some.inj hB
      exact ⟨0, Nat.le_refl _, by unfold maxLen; omega, rfl, rfl, rfl⟩
    · rw [List.getElem?_set_ne hk] at hx
      exact hu x hx
  · rintro i ⟨x, hx, hi⟩
    rcases List.mem_or_eq_of_mem_set hx with hx | hx
    · exact R1.clo ib _ i hb1 ⟨x, hx, hi⟩
    · subst hx; cases hi; rw [St.setOb_same]; intro h; cases h
theorem Le.nilS {σ : St} (t : Nat) (id : Oid) (e : TypeId) (sz : Nat) (ht : σ.fr t = .v (.slice none 0 0)) (hid : σ.ob id = .free) : Le ((σ.setOb id (.obj (.row e sz []))).put (some t) (.ref id 0 0)) σ := by
  intro K ι S a w R
  have R1 := R.new (w' := w) (o := .row e sz []) (B := ⟨none, 0, sz⟩) hid (below_self w) (fun k hk => by cases hk) ⟨_, setI_same _ _ _, rfl, .inl ⟨rfl, rfl, rfl⟩⟩ (fun i hi => hi.elim)
  refine ⟨_, S, ⟨R1.keeps, R1.S0, R1.Slt, R1.nt, R1.df, fun u hu => ?_, fun u i hi => ?_, R1.clo, R1.ob, R1.dom, R1.inj, R1.sep, R1.pin, R1.pf⟩⟩
  · show Rep _ _ _ (bif Nat.beq u t then _ else σ.fr u) _
    cases hb : Nat.beq u t with
    | true =>
      have := Nat.eq_of_beq_eq_true hb
      subst this
      have h0 := R1.fr u hu
      rw [show (σ.setOb id (.obj (.row e sz []))).fr u = .v (.slice none 0 0) from ht] at h0
      rw [h0.toV]
      refine .ref (fun B' hB => ?_) rfl
      rw [setI_same] at hB
      obtain rfl := Option.some.inj hB
      exact ⟨0, Nat.le_refl _, by unfold maxLen; omega, rfl, rfl, rfl⟩
    | false => exact R1.fr u hu
  · replace hi : Has i (bif Nat.beq u t then _ else σ.fr u) := hi
    cases hb : Nat.beq u t with
    | true => rw [hb] at hi; cases hi; show (σ.setOb id _).ob id ≠ _; rw [St.setOb_same]; intro h; cases h
    | false => rw [hb] at hi; exact R1.cl u i hi
/-- nil in a box's cell as data. -/
theorem Le.nil0 {σ : St} (ib : Oid) (j : Nat) {T : TypeId} {cs : List AV} (hb : σ.ob ib = .obj (.box T cs)) (hr : cs[j]? = some (.v (.slice none 0 0))) : Le (σ.setOb ib (.obj (.box T (cs.set j (.sl 0 []))))) σ := by
  intro K ι S a w R
  obtain ⟨B, g, h1, h2, h3, h4⟩ := R.ob ib _ hb
  refine ⟨ι, S, R.upd hb h1 (.of_below (below_self w)) ⟨B, g, h1, h2, by simpa using h3, ?_⟩ ?_⟩
  · rw [List.length_set]
    refine h4.next (fun _ _ => rfl) fun k u hu x hx => ?_
    by_cases hk : j = k
    · subst hk
      have := (hu _ hr).toV
      subst this
      rw [List.getElem?_set_self (List.getElem?_eq_some_iff.1 hr).1] at hx
      cases hx
      exact .sl (.sl0 (Nat.le_refl _) (by unfold maxLen; omega) fun _ => ⟨rfl, rfl⟩)
    · rw [List.getElem?_set_ne hk] at hx
      exact hu x hx
  · rintro i ⟨x, hx, hi⟩
    rcases List.mem_or_eq_of_mem_set hx with hx | hx
    · exact R.clo ib _ i hb ⟨x, hx, hi⟩
    · subst hx; cases hi
end Go.Proofs.Ytphlaojoehmhaaa
