/- Part 12 of the texts that the walk leans on: the machine, the walks, the plain laws. -/
import Derived.Test.YtkbkmngbenohkaaBrZ11
set_option linter.unusedSimpArgs false
set_option linter.unusedVariables false
namespace Go.Proofs.Ytkbkmngbenohkaa
open Go.RowKit

def adN (ord : List Nat) (v : Nat) : List Nat := if v ∈ ord then ord else ord ++ [v]
theorem adN_mem {ord : List Nat} {v u : Nat} : u ∈ adN ord v ↔ u ∈ ord ∨ u = v := by
 unfold adN; split
 ·rename_i h
  exact ⟨.inl, fun h' => h'.elim id fun e => e ▸ h⟩
 ·simp
theorem adN_ok {n : Nat} {ord : List Nat} (h : ok1 n ord) {v : Nat} (hv : v < n) : ok1 n (adN ord v) := by
 unfold adN; split
 ·exact h
 ·rename_i hn; exact h.add hv hn
theorem adN_pre (ord : List Nat) (v : Nat) : ∃ x, adN ord v = ord ++ x := by
 unfold adN; split
 ·exact ⟨[], by simp⟩
 ·exact ⟨[v], rfl⟩
theorem pre_trans {α : Type} {a b c : List α} (h : ∃ x, b = a ++ x) (h' : ∃ x, c = b ++ x) : ∃ x, c = a ++ x := by
 obtain ⟨x, rfl⟩ := h
 obtain ⟨y, rfl⟩ := h'
 exact ⟨x ++ y, by simp⟩
theorem pre_mem {α : Type} {a b : List α} (h : ∃ x, b = a ++ x) {u : α} (hu : u ∈ a) : u ∈ b := by
 obtain ⟨x, rfl⟩ := h
 exact List.mem_append_left _ hu
theorem pre_len {α : Type} {a b : List α} (h : ∃ x, b = a ++ x) : a.length ≤ b.length := by
 obtain ⟨x, rfl⟩ := h
 simp
/-- What is chosen of some is one of them. -/
theorem chsK_mem {R : Rl} {l : List Nat} : ∀ k, k ≤ l.length → 0 < k → 0 ≤ (chsK R l k).2 ∧ ∃ v ∈ l, (chsK R l k).1 = (v : Int)
 | 0, _, h => by omega
 | k + 1, h, _ => by
  have hm : l.getD k 0 ∈ l := getD_mem (by omega)
  rw [chsK_succ (by omega)]
  unfold chs1
  split
  ·exact ⟨by simp only; omega, _, hm, rfl⟩
  ·rename_i hn
   by_cases hk : k = 0
   ·subst hk
    simp only [chsK, List.take_zero, List.foldl_nil] at hn
    omega
   ·exact chsK_mem k (by omega) (by omega)
theorem chs_mem {R : Rl} {l : List Nat} (h : l ≠ []) : ∃ v ∈ l, chs R l = (v : Int) := by
 have : 0 < l.length := by
  cases l with
  | nil => exact absurd rfl h
  | cons a b => simp
 exact (chsK_mem (R := R) l.length (Nat.le_refl _) this).2
def chsN (R : Rl) (l : List Nat) : Nat := (chs R l).toNat
theorem chsN_mem {R : Rl} {l : List Nat} (h : l ≠ []) : chsN R l ∈ l ∧ chs R l = (chsN R l : Int) := by
 obtain ⟨v, hv, he⟩ := chs_mem (R := R) h
 unfold chsN
 rw [he, Int.toNat_natCast]
 exact ⟨hv, rfl⟩
theorem opn_mem {R : Rl} {n : Nat} {ord : List Nat} {st : List Int} {h : Nat} {sc : List Nat} {v : Nat} (hv : v ∈ opn R n ord st h sc) : v ∈ sc ∧ v ∉ ord := by
 unfold opn at hv
 rw [List.mem_filter] at hv
 refine ⟨hv.1, fun hm => ?_⟩
 have h2 := hv.2
 simp [stl, hm] at h2
/-- The tests, until no version is open; false: they contradict each other. -/
def lop (R : Rl) (n : Nat) (st : List Int) (h : Nat) (sc : List Nat) : Nat → List Nat → List Nat × Bool
 | 0, ord => (ord, true)
 | k + 1, ord =>
  if opn R n ord st h sc = [] then (ord, true)
  else if con R n (ord ++ [chsN R (opn R n ord st h sc)]) st = true then (ord ++ [chsN R (opn R n ord st h sc)], false)
  else lop R n st h sc k (ord ++ [chsN R (opn R n ord st h sc)])
section
variable {R : Rl} {n : Nat} {st : List Int} {h : Nat} {sc : List Nat}
theorem opn_few {ord : List Nat} (ho : ok1 n ord) (hsc : ∀ v ∈ sc, v < n) (hne : opn R n ord st h sc ≠ []) : ord.length < n := by
 obtain ⟨h1, _⟩ := chsN_mem (R := R) hne
 obtain ⟨h2, h3⟩ := opn_mem h1
 have := (ho.add (hsc _ h2) h3).len
 simp at this
 omega
theorem lop_done (k : Nat) {ord : List Nat} (he : opn R n ord st h sc = []) : lop R n st h sc k ord = (ord, true) := by
 cases k with
 | zero => rfl
 | succ k => rw [lop, if_pos he]
theorem lop_stop {k : Nat} {ord : List Nat} (he : opn R n ord st h sc ≠ []) (hc : con R n (ord ++ [chsN R (opn R n ord st h sc)]) st = true) : lop R n st h sc (k + 1) ord = (ord ++ [chsN R (opn R n ord st h sc)], false) := by
 rw [lop, if_neg he, if_pos hc]
theorem lop_next {k : Nat} {ord : List Nat} (he : opn R n ord st h sc ≠ []) (hc : con R n (ord ++ [chsN R (opn R n ord st h sc)]) st = false) : lop R n st h sc (k + 1) ord = lop R n st h sc k (ord ++ [chsN R (opn R n ord st h sc)]) := by
 rw [lop, if_neg he, if_neg (by simp [hc])]
theorem lop_ok (hsc : ∀ v ∈ sc, v < n) : ∀ k ord, ok1 n ord → ok1 n (lop R n st h sc k ord).1 ∧ (∃ x, (lop R n st h sc k ord).1 = ord ++ x) ∧ (∀ u ∈ (lop R n st h sc k ord).1, u ∈ ord ∨ u ∈ sc) ∧
   (n ≤ ord.length + k → (lop R n st h sc k ord).2 = true → opn R n (lop R n st h sc k ord).1 st h sc = [])
 | 0, ord, ho => ⟨ho, ⟨[], by simp [lop]⟩, fun u hu => .inl hu, fun hk _ => by
   apply Classical.byContradiction
   intro hne
   have := opn_few ho hsc hne
   omega⟩
 | k + 1, ord, ho => by
  by_cases he : opn R n ord st h sc = []
  ·rw [lop_done _ he]
   exact ⟨ho, ⟨[], by simp⟩, fun u hu => .inl hu, fun _ _ => he⟩
  ·obtain ⟨h1, _⟩ := chsN_mem (R := R) he
   obtain ⟨h2, h3⟩ := opn_mem h1
   have ho' := ho.add (hsc _ h2) h3
   cases hc : con R n (ord ++ [chsN R (opn R n ord st h sc)]) st with
   | true =>
    rw [lop_stop he hc]
    refine ⟨ho', ⟨_, rfl⟩, fun u hu => ?_, fun _ hf => by cases hf⟩
    rcases List.mem_append.1 hu with hu | hu
    ·exact .inl hu
    ·simp at hu; subst hu; exact .inr h2
   | false =>
    rw [lop_next he hc]
    obtain ⟨i1, i2, i3, i4⟩ := lop_ok hsc k _ ho'
    refine ⟨i1, pre_trans ⟨_, rfl⟩ i2, fun u hu => ?_, fun hk => i4 (by simp; omega)⟩
    rcases i3 u hu with hu | hu
    ·rcases List.mem_append.1 hu with hu | hu
     ·exact .inl hu
     ·simp at hu; subst hu; exact .inr h2
    ·exact .inr hu
end

/-! ### The visit of the parents -/
abbrev VS := List Nat × List Nat
def vstep (cf : List Nat → Bool) (un : Nat → Bool) (rc : Nat → VS → VS × Bool) (p : Nat) (q : VS) : VS × Bool :=
 if cf (adN q.1 p) = true then ((adN q.1 p, q.2), false)
 else if un p = true ∧ p ∉ q.2 then rc p (adN q.1 p, q.2 ++ [p])
 else ((adN q.1 p, q.2), true)
def vlist {σ : Type} (stp : Nat → σ → σ × Bool) : List Nat → σ → σ × Bool
 | [], q => (q, true)
 | p :: l, q => if (stp p q).2 = true then vlist stp l (stp p q).1 else stp p q
def vis (cf : List Nat → Bool) (un : Nat → Bool) (par : Nat → List Nat) : Nat → Nat → VS → VS × Bool
 | 0, _, q => (q, true)
 | k + 1, v, q => vlist (vstep cf un (vis cf un par k)) (par v) q
theorem vlist_app {σ : Type} {stp : Nat → σ → σ × Bool} : ∀ (a b : List Nat) (q : σ), vlist stp (a ++ b) q = if (vlist stp a q).2 = true then vlist stp b (vlist stp a q).1 else vlist stp a q
 | [], b, q => rfl
 | p :: a, b, q => by
  cases h : (stp p q).2 with
  | true => simp only [List.cons_append, vlist, h, if_true]; exact vlist_app a b _
  | false => simp [vlist, h]
theorem vlist_one {σ : Type} {stp : Nat → σ → σ × Bool} (p : Nat) (q : σ) : vlist stp [p] q = stp p q := by
 simp only [vlist]
 split
 ·rename_i h
  exact Prod.ext rfl h.symm
 ·rfl
/-- One more is done. -/
theorem vlist_succ {σ : Type} {stp : Nat → σ → σ × Bool} {l : List Nat} {q : σ} {i : Nat} (hi : i < l.length) (ht : (vlist stp (l.take i) q).2 = true) : vlist stp (l.take (i + 1)) q = stp (l.getD i 0) (vlist stp (l.take i) q).1 := by
 rw [take1 0 hi, vlist_app, if_pos ht, vlist_one]
/-- It ends early. -/
theorem vlist_stop {σ : Type} {stp : Nat → σ → σ × Bool} {l : List Nat} {q : σ} {i : Nat} (hf : (vlist stp (l.take i) q).2 = false) : vlist stp l q = vlist stp (l.take i) q := by
 conv => lhs; rw [← List.take_append_drop i l]
 rw [vlist_app, if_neg (by simp [hf])]
theorem vlist_inv {σ : Type} {stp : Nat → σ → σ × Bool} {I : σ → Prop} : ∀ (l : List Nat) (q : σ), (∀ p ∈ l, ∀ q, I q → I (stp p q).1) → I q → I (vlist stp l q).1
 | [], q, _, h => h
 | p :: l, q, hs, h => by
  simp only [vlist]
  have h1 := hs p (by simp) q h
  split
  ·exact vlist_inv l _ (fun p' hp' => hs p' (by simp [hp'])) h1
  ·exact h1
theorem vis_inv {cf : List Nat → Bool} {un : Nat → Bool} {par : Nat → List Nat} {I : VS → Prop} {T : Nat → Prop} (hT : ∀ v, T v → ∀ p ∈ par v, T p)
  (h1 : ∀ p q, T p → I q → I (adN q.1 p, q.2)) (h2 : ∀ p q, T p → un p = true → p ∉ q.2 → I q → I (q.1, q.2 ++ [p])) : ∀ k v q, T v → I q → I (vis cf un par k v q).1
 | 0, v, q, _, h => h
 | k + 1, v, q, hv, h => by
  refine vlist_inv (par v) q (fun p hp q hq => ?_) h
  have hp' := hT v hv p hp
  have hq' := h1 p q hp' hq
  unfold vstep
  split
  ·exact hq'
  ·split
   ·rename_i hu
    exact vis_inv hT h1 h2 k p _ hp' (h2 p (adN q.1 p, q.2) hp' hu.1 hu.2 hq')
   ·exact hq'
section
variable {cf : List Nat → Bool} {un : Nat → Bool} {par : Nat → List Nat} {n : Nat}
theorem vis_ok (hp : ∀ v, v < n → ∀ p ∈ par v, p < n) {k v : Nat} {q : VS} (hv : v < n) (h1 : ok1 n q.1) (h2 : ok1 n q.2) : ok1 n (vis cf un par k v q).1.1 ∧ ok1 n (vis cf un par k v q).1.2 ∧ (∃ x, (vis cf un par k v q).1.1 = q.1 ++ x) ∧ ∃ x, (vis cf un par k v q).1.2 = q.2 ++ x := by
 refine vis_inv (I := fun r => ok1 n r.1 ∧ ok1 n r.2 ∧ (∃ x, r.1 = q.1 ++ x) ∧ ∃ x, r.2 = q.2 ++ x) (T := fun v => v < n) hp (fun p r hp hr => ?_) (fun p r hp _ hn hr => ?_) k v q hv ⟨h1, h2, ⟨[], by simp⟩, ⟨[], by simp⟩⟩
 ·exact ⟨adN_ok hr.1 hp, hr.2.1, pre_trans hr.2.2.1 (adN_pre _ _), hr.2.2.2⟩
 ·exact ⟨hr.1, hr.2.1.add hp hn, hr.2.2.1, pre_trans hr.2.2.2 ⟨_, rfl⟩⟩
theorem vlist_ok (hp : ∀ v, v < n → ∀ p ∈ par v, p < n) {k : Nat} {l : List Nat} {q : VS} (hl : ∀ p ∈ l, p < n) (h1 : ok1 n q.1) (h2 : ok1 n q.2) :
  ok1 n (vlist (vstep cf un (vis cf un par k)) l q).1.1 ∧ ok1 n (vlist (vstep cf un (vis cf un par k)) l q).1.2 ∧ (∃ x, (vlist (vstep cf un (vis cf un par k)) l q).1.1 = q.1 ++ x) ∧ ∃ x, (vlist (vstep cf un (vis cf un par k)) l q).1.2 = q.2 ++ x := by
 refine vlist_inv (I := fun r => ok1 n r.1 ∧ ok1 n r.2 ∧ (∃ x, r.1 = q.1 ++ x) ∧ ∃ x, r.2 = q.2 ++ x) l q (fun p hpl r hr => ?_) ⟨h1, h2, ⟨[], by simp⟩, ⟨[], by simp⟩⟩
 have hpn := hl p hpl
 have ha := adN_ok hr.1 hpn
 have hb := pre_trans hr.2.2.1 (adN_pre r.1 p)
 unfold vstep
 split
 ·exact ⟨ha, hr.2.1, hb, hr.2.2.2⟩
 ·split
  ·rename_i hu
   obtain ⟨i1, i2, i3, i4⟩ := vis_ok (cf := cf) (un := un) (k := k) hp hpn (q := (adN r.1 p, r.2 ++ [p])) ha (hr.2.1.add hpn hu.2)
   exact ⟨i1, i2, pre_trans hb i3, pre_trans (pre_trans hr.2.2.2 ⟨_, rfl⟩) i4⟩
  ·exact ⟨ha, hr.2.1, hb, hr.2.2.2⟩
/-- Who is tested is above. -/
theorem vis_tested {T : Nat → Prop} (hT : ∀ v, T v → ∀ p ∈ par v, T p) {k v : Nat} {q : VS} (hv : T v) (h : ∀ u ∈ q.1, T u) : ∀ u ∈ (vis cf un par k v q).1.1, T u := by
 refine vis_inv (I := fun r => ∀ u ∈ r.1, T u) hT (fun p r hp hr u hu => ?_) (fun p r _ _ _ hr => hr) k v q hv h
 rcases adN_mem.1 hu with hu | rfl
 ·exact hr u hu
 ·exact hp
/-- No contradiction: the visit goes through. -/
theorem vis_true (hc : ∀ o, cf o = false) : ∀ k v q, (vis cf un par k v q).2 = true
 | 0, v, q => rfl
 | k + 1, v, q => by
  show (vlist _ (par v) q).2 = true
  have : ∀ (l : List Nat) (q : VS), (vlist (vstep cf un (vis cf un par k)) l q).2 = true := by
   intro l
   induction l with
   | nil => exact fun _ => rfl
   | cons p l ih =>
    intro q
    have hs : (vstep cf un (vis cf un par k) p q).2 = true := by
     unfold vstep
     rw [if_neg (by simp [hc])]
     split
     ·exact vis_true hc k _ _
     ·rfl
    simp only [vlist, hs, if_true]
    exact ih _
  exact this _ q
/-- What was found is above, by untestable versions. -/
theorem vis_sound {E : Prs} (hE : ∀ a b : Nat, a ∈ par b → un a = true → ((a : Int), (b : Int)) ∈ E) : ∀ k v q, ∀ u ∈ (vis cf un par k v q).1.2, u ∈ q.2 ∨ Clo E u v
 | 0, v, q => fun u hu => .inl hu
 | k + 1, v, q => by
  show ∀ u ∈ (vlist _ (par v) q).1.2, _
  refine vlist_inv (I := fun r => ∀ u ∈ r.2, u ∈ q.2 ∨ Clo E u v) (par v) q (fun p hp r hr => ?_) (fun u hu => .inl hu)
  unfold vstep
  split
  ·exact hr
  ·split
   ·rename_i hu
    intro u hm
    have hpv := Clo.one (hE p v hp hu.1)
    rcases vis_sound hE k p _ u hm with h | h
    ·rcases List.mem_append.1 h with h | h
     ·exact hr u h
     ·simp at h; subst h; exact .inr hpv
    ·exact .inr (h.trans hpv)
   ·exact hr
/-- All untestable parents of what was visited are found. -/
theorem vis_complete (hp : ∀ v, v < n → ∀ p ∈ par v, p < n) (hc : ∀ o, cf o = false) : ∀ k v q, v < n → ok1 n q.1 → ok1 n q.2 → n + 1 ≤ q.2.length + k →
  (∀ a ∈ par v, un a = true → a ∈ (vis cf un par k v q).1.2) ∧ ∀ u ∈ (vis cf un par k v q).1.2, u ∉ q.2 → ∀ a ∈ par u, un a = true → a ∈ (vis cf un par k v q).1.2
 | 0, v, q, _, _, h2, hk => by have := h2.len; omega
 | k + 1, v, q, hv, h1, h2, hk => by
  have key : ∀ (l : List Nat) (r : VS), (∀ p ∈ l, p < n) → ok1 n r.1 → ok1 n r.2 → (∃ x, r.2 = q.2 ++ x) →
    (∀ a ∈ l, un a = true → a ∈ (vlist (vstep cf un (vis cf un par k)) l r).1.2) ∧ ∀ u ∈ (vlist (vstep cf un (vis cf un par k)) l r).1.2, u ∉ r.2 → ∀ a ∈ par u, un a = true → a ∈ (vlist (vstep cf un (vis cf un par k)) l r).1.2 := by
   intro l
   induction l with
   | nil => exact fun r _ _ _ _ => ⟨fun a ha => by simp at ha, fun u hu hn => absurd hu hn⟩
   | cons p l ih =>
    intro r hl hr1 hr2 hpre
    have hpn := hl p (by simp)
    have hs : (vstep cf un (vis cf un par k) p r).2 = true := by
     unfold vstep
     rw [if_neg (by simp [hc])]
     split
     ·exact vis_true hc k _ _
     ·rfl
    have hln := pre_len hpre
    -- what one step does
    have hstep : ok1 n (vstep cf un (vis cf un par k) p r).1.1 ∧ ok1 n (vstep cf un (vis cf un par k) p r).1.2 ∧ (∃ x, (vstep cf un (vis cf un par k) p r).1.2 = r.2 ++ x) ∧ (un p = true → p ∈ (vstep cf un (vis cf un par k) p r).1.2) ∧
      ∀ u ∈ (vstep cf un (vis cf un par k) p r).1.2, u ∉ r.2 → ∀ a ∈ par u, un a = true → a ∈ (vstep cf un (vis cf un par k) p r).1.2 := by
     unfold vstep
     rw [if_neg (by simp [hc])]
     split
     ·rename_i hu
      have ha := adN_ok hr1 hpn
      have hb := hr2.add hpn hu.2
      obtain ⟨i1, i2, _, i4⟩ := vis_ok (cf := cf) (un := un) (k := k) hp hpn (q := (adN r.1 p, r.2 ++ [p])) ha hb
      obtain ⟨c1, c2⟩ := vis_complete hp hc k p (adN r.1 p, r.2 ++ [p]) hpn ha hb (by simp; omega)
      refine ⟨i1, i2, pre_trans ⟨_, rfl⟩ i4, fun _ => pre_mem i4 (by simp), fun u hu' hn a hau hun => ?_⟩
      by_cases hup : u = p
      ·subst hup; exact c1 a hau hun
      ·exact c2 u hu' (by simp [hn, hup]) a hau hun
     ·rename_i hu
      exact ⟨adN_ok hr1 hpn, hr2, ⟨[], by simp⟩, fun hup => Classical.byContradiction fun hn => hu ⟨hup, hn⟩, fun u hu' hn => absurd hu' hn⟩
    obtain ⟨s1, s2, s3, s4, s5⟩ := hstep
    obtain ⟨j1, j2⟩ := ih (vstep cf un (vis cf un par k) p r).1 (fun p' hp' => hl p' (by simp [hp'])) s1 s2 (pre_trans hpre s3)
    obtain ⟨_, _, _, k4⟩ := vlist_ok (cf := cf) (un := un) (k := k) hp (l := l) (q := (vstep cf un (vis cf un par k) p r).1) (fun p' hp' => hl p' (by simp [hp'])) s1 s2
    simp only [vlist, hs, if_true]
    refine ⟨fun a ha hun => ?_, fun u hu hn a hau hun => ?_⟩
    ·rcases List.mem_cons.1 ha with rfl | ha
     ·exact pre_mem k4 (s4 hun)
     ·exact j1 a ha hun
    ·by_cases hus : u ∈ (vstep cf un (vis cf un par k) p r).1.2
     ·exact pre_mem k4 (s5 u hus hn a hau hun)
     ·exact j2 u hu hus a hau hun
  exact key (par v) q (hp v hv) h1 h2 ⟨[], by simp⟩
theorem vis_all {E : Prs} (hp : ∀ v, v < n → ∀ p ∈ par v, p < n) (hc : ∀ o, cf o = false) (hE : ∀ a b : Nat, ((a : Int), (b : Int)) ∈ E → a ∈ par b ∧ un a = true) {k v : Nat} {o : List Nat} (hv : v < n) (h1 : ok1 n o) (hk : n + 1 ≤ k) {u : Nat} (hu : Clo E u v) : u ∈ (vis cf un par k v (o, [])).1.2 := by
 obtain ⟨c1, c2⟩ := vis_complete (cf := cf) (un := un) hp hc k v (o, []) hv h1 ⟨List.nodup_nil, fun v hv => by simp at hv⟩ (by simp; omega)
 induction hu with
 | one h => exact c1 _ (hE _ _ h).1 (hE _ _ h).2
 | more h _ ih => exact c2 _ (ih hv c1 c2) (by simp) _ (hE _ _ h).1 (hE _ _ h).2
end

/-! ### The blames -/
/-- A set in increasing order. -/
def fil (n : Nat) (l : List Nat) : List Nat := (List.range n).filter fun v => decide (v ∈ l)
theorem fil_mem {n : Nat} {l : List Nat} {v : Nat} : v ∈ fil n l ↔ v < n ∧ v ∈ l := by simp [fil]
theorem fil_srt {n : Nat} {l : List Nat} (h : ok1 n l) : isl (srt (l.map fun (v : Nat) => (v : Int))) = nsl (fil n l) := by
 have e : srt (l.map fun (v : Nat) => (v : Int)) = (fil n l).map fun (v : Nat) => (v : Int) := by
  refine (srt_of ?_ ?_).symm
  ·refine List.Perm.map _ ((List.perm_ext_iff_of_nodup (List.Pairwise.filter _ List.nodup_range) h.1).2 fun v => ?_)
   rw [← fil, fil_mem]
   exact ⟨fun h => h.2, fun hv => ⟨h.2 v hv, hv⟩⟩
  ·rw [List.pairwise_map]
   exact (List.Pairwise.filter _ List.pairwise_lt_range : (fil n l).Pairwise (· < ·)).imp fun h => by omega
 rw [e]
 simp [isl, nsl]
abbrev BS := List Nat × List (Nat × List Nat)
def bstep (vs : Nat → VS → VS × Bool) (n : Nat) (v : Nat) (q : BS) : BS × Bool :=
 if (vs v (q.1, [])).2 = true then (((vs v (q.1, [])).1.1, q.2 ++ [(v, fil n (vs v (q.1, [])).1.2)]), true) else (((vs v (q.1, [])).1.1, q.2), false)
/-- The status is untestable. -/
def unN (st : List Int) (v : Nat) : Bool := decide (nst st v = 2)
abbrev vsF (R : Rl) (n : Nat) (par : Nat → List Nat) (st : List Int) : Nat → VS → VS × Bool := vis (fun o => con R n o st) (unN st) par (n + 1)
/-- What the search for a bad head comes to: the tests in order, the blames, whether there is no contradiction. -/
def fnd (R : Rl) (n : Nat) (par : Nat → List Nat) (st : List Int) (h : Nat) (sc : List Nat) : BS × Bool :=
 if (lop R n st h sc n [h]).2 = true then vlist (bstep (vsF R n par st) n) (cnd R n (lop R n st h sc n [h]).1 st) ((lop R n st h sc n [h]).1, []) else (((lop R n st h sc n [h]).1, []), false)
theorem cnd_lt {R : Rl} {n : Nat} {ord : List Nat} {st : List Int} {v : Nat} (h : v ∈ cnd R n ord st) : v < n ∧ v ∈ ord ∧ nst st v = 1 := by
 unfold cnd at h
 exact tst_mem.1 (List.mem_filter.1 h).1
section
variable {R : Rl} {n : Nat} {par : Nat → List Nat} {st : List Int}
theorem bls_inv (hp : ∀ v, v < n → ∀ p ∈ par v, p < n) {T : Nat → Prop} (hT : ∀ v, T v → ∀ p ∈ par v, T p) {l : List Nat} {q : BS} (hl : ∀ v ∈ l, v < n ∧ T v) (h1 : ok1 n q.1) (h2 : ∀ u ∈ q.1, T u) :
  ok1 n (vlist (bstep (vsF R n par st) n) l q).1.1 ∧ (∃ x, (vlist (bstep (vsF R n par st) n) l q).1.1 = q.1 ++ x) ∧ ∀ u ∈ (vlist (bstep (vsF R n par st) n) l q).1.1, T u := by
 refine vlist_inv (I := fun r => ok1 n r.1 ∧ (∃ x, r.1 = q.1 ++ x) ∧ ∀ u ∈ r.1, T u) l q (fun v hv r hr => ?_) ⟨h1, ⟨[], by simp⟩, h2⟩
 have h3 := vis_ok (cf := fun o => con R n o st) (un := unN st) (k := n + 1) hp (hl v hv).1 (q := (r.1, [])) hr.1 ⟨List.nodup_nil, fun v hv => by simp at hv⟩
 have h4 := vis_tested (cf := fun o => con R n o st) (un := unN st) (k := n + 1) hT (q := (r.1, [])) (hl v hv).2 hr.2.2
 unfold bstep
 split
 ·exact ⟨h3.1, pre_trans hr.2.1 h3.2.2.1, h4⟩
 ·exact ⟨h3.1, pre_trans hr.2.1 h3.2.2.1, h4⟩
end
end Go.Proofs.Ytkbkmngbenohkaa

namespace Go.Proofs.Ytkbkmngbenohkaa
open Go.RowKit

theorem getD_02 {st : List Int} {v : Nat} (h : v < st.length) : st.getD v 0 = st.getD v 2 := by
  rw [List.getD_eq_getElem?_getD, List.getD_eq_getElem?_getD, List.getElem?_eq_getElem h]; rfl
theorem getD_2n {st : List Int} {v : Nat} (h : ¬ v < st.length) : st.getD v 2 = 2 := by
  rw [List.getD_eq_getElem?_getD, List.getElem?_eq_none (by omega)]; rfl
theorem nsl_snoc (l : List Nat) (v : Nat) : nsl l ++ [PV.v (.int .i64 (v : Int))] = nsl (l ++ [v]) := nsl_append l [v]
theorem ttest_spec (st : List Int) (ord : List Nat) (v : Nat) (h1 : st.length ≤ 4611686018427387904) (h2 : ord.length ≤ 1000) :
    Spec Try.prog 73 (inStI [.ptr (0, 9) 0, .v (.int .i64 (v : Int))] [((0, 9), .box 93 [.sl st.length (isl st), .ref (1, 9) 0 ord.length]), ((1, 9), .row 3 1 (nsl ord))])
      (outStI (.v (.int .i64 (st.getD v 2))) [((0, 9), .box 93 [.sl st.length (isl st), .ref (1, 8) 0 (ord ++ [v]).length]), ((1, 8), .row 3 1 (nsl (ord ++ [v])))] [(0, 9), (1, 8)] [(0, 9)]) := by
  have hol : (ord ++ [v]).length = ord.length + 1 := by simp
  refine Spec.ofNI Try.func73 rfl Try.ntmps73 rfl ?_
  refine D_seq fun K1 hK1 => ?_
  refine D_region ?_
  refine DL_c (op_as _ (rfl : _ = AV.v (.int _ _))) ?_
  refine DL_nil (hK1 _ ?_)
  clear hK1; try clear K1
  refine D_seq fun K2 hK2 => ?_
  refine D_region ?_
  refine DL_c (op_mv _ (rfl : _ = AV.ptr _ _)) ?_
  refine DL_c (op_mv _ (rfl : _ = AV.ptr _ _)) ?_
  refine DL_c (op_nilp _ rfl rfl) ?_
  refine DL_c (op_fldP _ inferInstance rfl rfl rfl) ?_
  refine DL_c (op_ldB _ inferInstance rfl rfl (rfl : _ = some (AV.ref _ _ _))) ?_
  refine DL_c (op_mv _ (rfl : _ = AV.v (.int _ _))) ?_
  refine DL_c (op_bsF _ _ inferInstance rfl (by rfl) (by simp <;> rfl) (by decide) rfl) ?_
  refine DL_c (op_ap (12, 0) _ _ inferInstance rfl rfl (by (simp only [isl_len, bsl_len, psl_len, mrows_len, nsl_len, ws_len, List.length_map, ul_len, psl_len, isl_len, nrows_len, mmap_len]; omega)) (by (refine .sl ?_; (simp [isl]; done))) (by omega) rfl (rfl) (rfl)) ?_
  refine DL_c (op_nilp _ rfl rfl) ?_
  refine DL_c (op_fldP _ inferInstance rfl rfl rfl) ?_
  refine DL_c (op_stB _ _ inferInstance rfl rfl rfl rfl (Nat.le_of_ble_eq_true rfl) rfl) ?_
  refine DL_nil (hK2 _ ?_)
  clear hK2; try clear K2
  refine D_seq fun K3 hK3 => ?_
  refine D_seq fun K4 hK4 => ?_
  refine D_region ?_
  refine DL_c (op_mv _ (rfl : _ = AV.v (.int _ _))) ?_
  refine DL_c (op_lss _ _ rfl rfl rfl) ?_
  refine DL_c (op_mv _ (rfl : _ = AV.v (.bool _))) ?_
  refine DL_caseC (fun hg17 => ?_) (fun hg17 => ?_)
  · skip
    exact absurd  hg17 (by omega)
  · skip
    refine DL_cy rfl rfl (op_mv _ (rfl : _ = AV.v (.int _ _))) ?_
    refine DL_cy rfl rfl (op_mv _ (rfl : _ = AV.ptr _ _)) ?_
    refine DL_cy rfl rfl (op_nilp _ rfl rfl) ?_
    refine DL_cy rfl rfl (op_fldP _ inferInstance rfl rfl rfl) ?_
    refine DL_cy rfl rfl (op_ldB _ inferInstance rfl rfl (rfl : _ = some (AV.sl _ _))) ?_
    refine DL_cy rfl rfl (op_lenS _ inferInstance rfl) ?_
    refine DL_cy rfl rfl (op_geq _ _ rfl rfl rfl) ?_
    refine DL_c (op_pick _ _ _ rfl (rfl : _ = AV.v (.bool _))) ?_
    refine DL_nil (hK4 _ ?_)
    clear hK4; try clear K4
    refine D_splitC rfl (fun hc25 => ?_) (fun hc25 => ?_)
    · skip
      refine D_seq fun K5 hK5 => ?_
      refine D_le (σ' := mkStI 33 [] [((0, 9), _), ((12, 0), _)] [(0, 9), (12, 0)] [(0, 9)]) (by
        refine Le.mkJ [] [] rfl ?_ ?_ trivial ⟨rfl, trivial⟩ ?_
        · exact trivial
        · exact ⟨(obE rfl rfl rfl), (obE rfl rfl rfl), trivial⟩
        · kernel_rfl) ?_
      refine D_region ?_
      refine DL_c (op_as _ (rfl : _ = AV.v (.int _ _))) ?_
      refine DL_nil (hK5 _ ?_)
      clear hK5; try clear K5
      refine D_ret ?_
      have hr := getD_2n (st := st) (v := v) (by omega)
      exact ret1 (.inr rfl) rfl (.tmp (rfl : _ = AV.v (.int _ _))) (Le.outI [((1, 8), (12, 0))] [] (lvI (by rw [hr])) rfl rfl rfl trivial ⟨⟨rfl, ⟨_, rfl, .box rfl (lv_cons .sl (lv_cons (lvRr rfl hol) lv_nil))⟩, rfl⟩, ⟨rfl, ⟨_, rfl, .rowE (nsl_snoc _ _)⟩, rfl⟩, trivial⟩ ⟨rfl, trivial⟩ rfl)
    · skip
      refine D_skip (hK3 _ ?_)
      clear hK3; try clear K3
      refine D_seq fun K6 hK6 => ?_
      refine D_le (σ' := mkStI 33 [(0, _), (1, _)] [((0, 9), _), ((12, 0), _)] [(0, 9), (12, 0)] [(0, 9)]) (by
        refine Le.mkJ [] [] rfl ?_ ?_ trivial ⟨rfl, trivial⟩ ?_
        · exact ⟨(iP rfl), (iV rfl), trivial⟩
        · exact ⟨(obE rfl rfl rfl), (obE rfl rfl rfl), trivial⟩
        · kernel_rfl) ?_
      refine D_region ?_
      refine DL_c (op_mv _ (rfl : _ = AV.ptr _ _)) ?_
      refine DL_c (op_nilp _ rfl rfl) ?_
      refine DL_c (op_fldP _ inferInstance rfl rfl rfl) ?_
      refine DL_c (op_ldB _ inferInstance rfl rfl (rfl : _ = some (AV.sl _ _))) ?_
      refine DL_c (op_mv _ (rfl : _ = AV.v (.int _ _))) ?_
      refine DL_c (op_ixS _ _ inferInstance rfl rfl _ rfl (by omega) (by (simp only [isl_len, bsl_len, psl_len, mrows_len, nsl_len, ws_len, List.length_map, ul_len, psl_len, isl_len, nrows_len, mmap_len]; omega)) (by exact Nat.mul_one _)) ?_
      refine DL_c (op_ldF _ inferInstance rfl (by exact isl_get _ _ (by omega)) rfl) ?_
      refine DL_c (op_as _ (rfl : _ = AV.v (.int _ _))) ?_
      refine DL_nil (hK6 _ ?_)
      clear hK6; try clear K6
      refine D_ret ?_
      have hr := getD_02 (st := st) (v := v) (by omega)
      exact ret1 (.inr rfl) rfl (.tmp (rfl : _ = AV.v (.int _ _))) (Le.outI [((1, 8), (12, 0))] [] (lvI (by exact hr.symm)) rfl rfl rfl trivial ⟨⟨rfl, ⟨_, rfl, .box rfl (lv_cons .sl (lv_cons (lvRr rfl hol) lv_nil))⟩, rfl⟩, ⟨rfl, ⟨_, rfl, .rowE (nsl_snoc _ _)⟩, rfl⟩, trivial⟩ ⟨rfl, trivial⟩ rfl)
/-- The search behind a test: the rows may have moved. -/
abbrev SSO (n : Nat) (P A : List Nat) (h : Nat) (sc : List Nat) (st : List Int) (ord : List Nat) : List (Oid × Cells) :=
  [((0, 9), .box 136 [.fp 0 (gra n P A), .v (.int .i64 (h : Int)), .sl sc.length (nsl sc), .fn (.func 73) [.ptr (3, 9) 0] [], .mp (1, 9), .ref (2, 8) 0 ord.length]),
   ((1, 9), .mp (ment (mmap st ord)) (mmap st ord).length), ((2, 8), .row 3 1 (nsl ord)), ((3, 9), .box 93 [.sl st.length (isl st), .ref (4, 8) 0 ord.length]), ((4, 8), .row 3 1 (nsl ord))]
abbrev I5o : List Oid := [(0, 9), (1, 9), (2, 8), (3, 9), (4, 8)]
abbrev P3 : List Oid := [(0, 9), (1, 9), (3, 9)]
theorem try_known (n : Nat) (P A : List Nat) (h : Nat) (sc : List Nat) (st : List Int) (ord : List Nat) (v : Nat) (hv : v ∈ ord) :
    Spec Try.prog 107 (inStI [.ptr (0, 9) 0, .v (.int .i64 (v : Int))] (SSL n P A h sc st ord)) (outStI (.v (.int .i64 (nst st v))) (SSO n P A h sc st ord) I5o P3) := by
  have hm := mmap_some (st := st) hv
  refine Spec.ofNI Try.func107 rfl Try.ntmps107 rfl ?_
  refine D_seq fun K1 hK1 => ?_
  refine D_region ?_
  refine DL_c (op_as _ (rfl : _ = AV.v (.int _ _))) ?_
  refine DL_nil (hK1 _ ?_)
  clear hK1; try clear K1
  refine D_seq fun K2 hK2 => ?_
  refine D_seq fun K3 hK3 => ?_
  refine D_region ?_
  refine DL_c (op_mv _ (rfl : _ = AV.ptr _ _)) ?_
  refine DL_c (op_nilp _ rfl rfl) ?_
  refine DL_c (op_fldP _ inferInstance rfl rfl rfl) ?_
  refine DL_c (op_ldB _ inferInstance rfl rfl (rfl : _ = some (AV.mp _))) ?_
  refine DL_c (op_mv _ (rfl : _ = AV.v (.int _ _))) ?_
  refine DL_c (op_lookM _ _ Try.underlying134 Try.underlying3 Try.zeroValue3 rfl rfl rfl hm) ?_
  refine DL_c (op_mv _ (rfl : _ = AV.tup _)) ?_
  refine DL_c (op_ext _ rfl (rfl : _ = some (AV.v (.int _ _)))) ?_
  refine DL_c (op_ext _ rfl (rfl : _ = some (AV.v (.bool _)))) ?_
  refine DL_c (op_as _ (rfl : _ = AV.v (.int _ _))) ?_
  refine DL_c (op_as _ (rfl : _ = AV.v (.bool _))) ?_
  refine DL_nil (hK3 _ ?_)
  clear hK3; try clear K3
  refine D_seq fun K4 hK4 => ?_
  refine D_region ?_
  refine DL_c (op_mv _ (rfl : _ = AV.v (.bool _))) ?_
  refine DL_nil (hK4 _ ?_)
  clear hK4; try clear K4
  refine D_cT rfl rfl ?_
  refine D_seq fun K5 hK5 => ?_
  refine D_region ?_
  refine DL_c (op_mv _ (rfl : _ = AV.v (.int _ _))) ?_
  refine DL_c (op_as _ (rfl : _ = AV.v (.int _ _))) ?_
  refine DL_nil (hK5 _ ?_)
  clear hK5; try clear K5
  refine D_ret ?_
  exact ret1 (.inr rfl) rfl (.tmp (rfl : _ = AV.v _)) (Le.outI [((2, 8), (2, 9)), ((4, 8), (4, 9))] [] (lvI rfl) rfl rfl rfl trivial ⟨⟨rfl, ⟨_, rfl, .box rfl (lv_cons .fp (lv_cons .v (lv_cons .sl (lv_cons (.fn rfl (lv_cons (lvPr rfl) lv_nil) rfl lv_nil) (lv_cons .mp (lv_cons (lvRr rfl rfl) lv_nil))))))⟩, rfl⟩, ⟨rfl, ⟨_, rfl, .mp⟩, rfl⟩, ⟨rfl, ⟨_, rfl, .rowE rfl⟩, rfl⟩, ⟨rfl, ⟨_, rfl, .box rfl (lv_cons .sl (lv_cons (lvRr rfl rfl) lv_nil))⟩, rfl⟩, ⟨rfl, ⟨_, rfl, .rowE rfl⟩, rfl⟩, trivial⟩ ⟨rfl, rfl, rfl, trivial⟩ rfl)
theorem mmap_app' {st : List Int} {ord : List Nat} {v : Nat} {u : Int} (hu : u = nst st v) : mmap st ord ++ [((v : Int), .int .i64 u)] = mmap st (ord ++ [v]) := by rw [hu]; exact mmap_app st ord v
set_option maxHeartbeats 1000000 in
theorem try_new (n : Nat) (P A : List Nat) (h : Nat) (sc : List Nat) (st : List Int) (h1 : st.length ≤ 4611686018427387904) (ord : List Nat) (h2 : ord.length ≤ 1000) (v : Nat) (hv : v ∉ ord) :
    Spec Try.prog 107 (inStI [.ptr (0, 9) 0, .v (.int .i64 (v : Int))] (SSL n P A h sc st ord)) (outStI (.v (.int .i64 (nst st v))) (SSO n P A h sc st (ord ++ [v])) I5o P3) := by
  have hm := mmap_none (st := st) hv
  have hol : (ord ++ [v]).length = ord.length + 1 := by simp
  refine Spec.ofNI Try.func107 rfl Try.ntmps107 rfl ?_
  refine D_seq fun K1 hK1 => ?_
  refine D_region ?_
  refine DL_c (op_as _ (rfl : _ = AV.v (.int _ _))) ?_
  refine DL_nil (hK1 _ ?_)
  clear hK1; try clear K1
  refine D_seq fun K2 hK2 => ?_
  refine D_seq fun K3 hK3 => ?_
  refine D_region ?_
  refine DL_c (op_mv _ (rfl : _ = AV.ptr _ _)) ?_
  refine DL_c (op_nilp _ rfl rfl) ?_
  refine DL_c (op_fldP _ inferInstance rfl rfl rfl) ?_
  refine DL_c (op_ldB _ inferInstance rfl rfl (rfl : _ = some (AV.mp _))) ?_
  refine DL_c (op_mv _ (rfl : _ = AV.v (.int _ _))) ?_
  refine DL_c (op_lookM _ _ Try.underlying134 Try.underlying3 Try.zeroValue3 rfl rfl rfl hm) ?_
  refine DL_c (op_mv _ (rfl : _ = AV.tup _)) ?_
  refine DL_c (op_ext _ rfl (rfl : _ = some (AV.v (.int _ _)))) ?_
  refine DL_c (op_ext _ rfl (rfl : _ = some (AV.v (.bool _)))) ?_
  refine DL_c (op_as _ (rfl : _ = AV.v (.int _ _))) ?_
  refine DL_c (op_as _ (rfl : _ = AV.v (.bool _))) ?_
  refine DL_nil (hK3 _ ?_)
  clear hK3; try clear K3
  refine D_seq fun K4 hK4 => ?_
  refine D_region ?_
  refine DL_c (op_mv _ (rfl : _ = AV.v (.bool _))) ?_
  refine DL_nil (hK4 _ ?_)
  clear hK4; try clear K4
  refine D_cF rfl rfl ?_
  refine D_skip (hK2 _ ?_)
  clear hK2; try clear K2
  refine D_seq fun K5 hK5 => ?_
  refine D_region ?_
  refine DL_c (op_mv _ (rfl : _ = AV.ptr _ _)) ?_
  refine DL_c (op_nilp _ rfl rfl) ?_
  refine DL_c (op_fldP _ inferInstance rfl rfl rfl) ?_
  refine DL_c (op_ldB _ inferInstance rfl rfl (rfl : _ = some (AV.fn _ _ _))) ?_
  refine DL_c (op_mv _ (rfl : _ = AV.v (.int _ _))) ?_
  refine DL_c (op_callPV rfl inferInstance [((0, 9), (3, 9)), ((1, 9), (4, 9)), ((1, 8), (60, 0))] ?_ (ttest_spec st ord v h1 h2) ⟨⟨rfl, ⟨_, rfl, .box rfl (lv_cons .sl (lv_cons (lvRr rfl rfl) lv_nil))⟩, rfl⟩, ⟨rfl, ⟨_, rfl, .rowE rfl⟩, rfl⟩, trivial⟩ ⟨rfl, rfl, trivial⟩ (by kernel_rfl)) ?_
  · repeat' (first | exact argsR_nil | refine argsR_cons ?_ ?_ | exact Lv.v | exact lvPr rfl)
  refine DL_c (op_as _ (rfl : _ = AV.v (.int _ _))) ?_
  refine DL_nil (hK5 _ ?_)
  clear hK5; try clear K5
  refine D_seq fun K6 hK6 => ?_
  refine D_seq fun K7 hK7 => ?_
  refine D_le (σ' := mkStI 48 [(0, _), (1, _), (7, _)] [((0, 9), _), ((1, 9), _), ((2, 9), _), ((3, 9), _), ((60, 0), _)] [(0, 9), (1, 9), (2, 9), (3, 9), (60, 0)] [(0, 9), (1, 9), (3, 9)]) (by
    refine Le.mkJ [] [] rfl ?_ ?_ trivial ⟨rfl, rfl, rfl, trivial⟩ ?_
    · exact ⟨(iP rfl), (iV rfl), (iV rfl), trivial⟩
    · exact ⟨(obE rfl rfl rfl), (obE rfl rfl rfl), (obE rfl rfl rfl), (obE rfl rfl rfl), (obE rfl rfl rfl), trivial⟩
    · kernel_rfl) ?_
  refine D_region ?_
  refine DL_c (op_mv _ (rfl : _ = AV.v (.int _ _))) ?_
  refine DL_c (op_neq _ _ rfl rfl rfl) ?_
  refine DL_c (op_mv _ (rfl : _ = AV.v (.bool _))) ?_
  refine DL_caseC (fun hg27 => ?_) (fun hg27 => ?_)
  · skip
    refine DL_cy rfl rfl (op_mv _ (rfl : _ = AV.v (.int _ _))) ?_
    refine DL_cy rfl rfl (op_neq _ _ rfl rfl rfl) ?_
    refine DL_c (op_pick _ _ _ rfl (rfl : _ = AV.v (.bool _))) ?_
    refine DL_nil (hK7 _ ?_)
    clear hK7; try clear K7
    refine D_splitC rfl (fun hc30 => ?_) (fun hc30 => ?_)
    · skip
      have hnx : (2 : Int) = nst st v := by unfold nst; rw [if_pos ⟨hg27, hc30⟩]
      refine D_region ?_
      refine DL_c (op_as _ (rfl : _ = AV.v (.int _ _))) ?_
      refine DL_nil (hK6 _ ?_)
      clear hK6; try clear K6
      refine D_seq fun K8 hK8 => ?_
      refine D_region ?_
      refine DL_c (op_mv _ (rfl : _ = AV.ptr _ _)) ?_
      refine DL_c (op_nilp _ rfl rfl) ?_
      refine DL_c (op_fldP _ inferInstance rfl rfl rfl) ?_
      refine DL_c (op_ldB _ inferInstance rfl rfl (rfl : _ = some (AV.mp _))) ?_
      refine DL_c (op_mv _ (rfl : _ = AV.v (.int _ _))) ?_
      refine DL_c (op_mv _ (rfl : _ = AV.v (.int _ _))) ?_
      refine DL_c (op_updM _ _ _ Try.underlying134 Try.underlying3 rfl rfl rfl rfl rfl hm (mmap_app' hnx) rfl) ?_
      refine DL_nil (hK8 _ ?_)
      clear hK8; try clear K8
      refine D_seq fun K9 hK9 => ?_
      refine D_region ?_
      refine DL_c (op_mv _ (rfl : _ = AV.ptr _ _)) ?_
      refine DL_c (op_mv _ (rfl : _ = AV.ptr _ _)) ?_
      refine DL_c (op_nilp _ rfl rfl) ?_
      refine DL_c (op_fldP _ inferInstance rfl rfl rfl) ?_
      refine DL_c (op_ldB _ inferInstance rfl rfl (rfl : _ = some (AV.ref _ _ _))) ?_
      refine DL_c (op_mv _ (rfl : _ = AV.v (.int _ _))) ?_
      refine DL_c (op_bsF _ _ inferInstance rfl (by rfl) (by simp <;> rfl) (by decide) rfl) ?_
      refine DL_c (op_ap (44, 0) _ _ inferInstance rfl rfl (by (simp only [isl_len, bsl_len, psl_len, mrows_len, nsl_len, ws_len, List.length_map, ul_len, psl_len, isl_len, nrows_len, mmap_len]; omega)) (by (refine .sl ?_; (simp [isl]; done))) (by omega) rfl (rfl) (rfl)) ?_
      refine DL_c (op_nilp _ rfl rfl) ?_
      refine DL_c (op_fldP _ inferInstance rfl rfl rfl) ?_
      refine DL_c (op_stB _ _ inferInstance rfl rfl rfl rfl (Nat.le_of_ble_eq_true rfl) rfl) ?_
      refine DL_nil (hK9 _ ?_)
      clear hK9; try clear K9
      refine D_seq fun K10 hK10 => ?_
      refine D_le (σ' := mkStI 48 [(7, _)] [((0, 9), _), ((1, 9), _), ((3, 9), _), ((60, 0), _), ((44, 0), _)] [(0, 9), (1, 9), (3, 9), (60, 0), (44, 0)] [(0, 9), (1, 9), (3, 9)]) (by
        refine Le.mkJ [] [] rfl ?_ ?_ trivial ⟨rfl, rfl, rfl, trivial⟩ ?_
        · exact ⟨(iV rfl), trivial⟩
        · exact ⟨(obE rfl rfl rfl), (obE rfl rfl rfl), (obE rfl rfl rfl), (obE rfl rfl rfl), (obE rfl rfl rfl), trivial⟩
        · kernel_rfl) ?_
      refine D_region ?_
      refine DL_c (op_mv _ (rfl : _ = AV.v (.int _ _))) ?_
      refine DL_c (op_as _ (rfl : _ = AV.v (.int _ _))) ?_
      refine DL_nil (hK10 _ ?_)
      clear hK10; try clear K10
      refine D_ret ?_
      exact ret1 (.inr rfl) rfl (.tmp (rfl : _ = AV.v (.int _ _))) (Le.outI [((2, 8), (44, 0)), ((4, 8), (60, 0))] [] (lvI hnx.symm) rfl rfl rfl trivial ⟨⟨rfl, ⟨_, rfl, .box rfl (lv_cons .fp (lv_cons .v (lv_cons .sl (lv_cons (.fn rfl (lv_cons (lvPr rfl) lv_nil) rfl lv_nil) (lv_cons .mp (lv_cons (lvRr rfl hol) lv_nil))))))⟩, rfl⟩, ⟨rfl, ⟨_, rfl, .mp⟩, rfl⟩, ⟨rfl, ⟨_, rfl, .rowE (nsl_snoc _ _)⟩, rfl⟩, ⟨rfl, ⟨_, rfl, .box rfl (lv_cons .sl (lv_cons (lvRr rfl rfl) lv_nil))⟩, rfl⟩, ⟨rfl, ⟨_, rfl, .rowE rfl⟩, rfl⟩, trivial⟩ ⟨rfl, rfl, rfl, trivial⟩ rfl)
    · skip
      have hnx : st.getD v 2 = nst st v := by unfold nst; rw [if_neg (fun h => h.2 hc30)]
      refine D_skip (hK6 _ ?_)
      clear hK6; try clear K6
      refine D_seq fun K11 hK11 => ?_
      refine D_region ?_
      refine DL_c (op_mv _ (rfl : _ = AV.ptr _ _)) ?_
      refine DL_c (op_nilp _ rfl rfl) ?_
      refine DL_c (op_fldP _ inferInstance rfl rfl rfl) ?_
      refine DL_c (op_ldB _ inferInstance rfl rfl (rfl : _ = some (AV.mp _))) ?_
      refine DL_c (op_mv _ (rfl : _ = AV.v (.int _ _))) ?_
      refine DL_c (op_mv _ (rfl : _ = AV.v (.int _ _))) ?_
      refine DL_c (op_updM _ _ _ Try.underlying134 Try.underlying3 rfl rfl rfl rfl rfl hm (mmap_app' hnx) rfl) ?_
      refine DL_nil (hK11 _ ?_)
      clear hK11; try clear K11
      refine D_seq fun K12 hK12 => ?_
      refine D_region ?_
      refine DL_c (op_mv _ (rfl : _ = AV.ptr _ _)) ?_
      refine DL_c (op_mv _ (rfl : _ = AV.ptr _ _)) ?_
      refine DL_c (op_nilp _ rfl rfl) ?_
      refine DL_c (op_fldP _ inferInstance rfl rfl rfl) ?_
      refine DL_c (op_ldB _ inferInstance rfl rfl (rfl : _ = some (AV.ref _ _ _))) ?_
      refine DL_c (op_mv _ (rfl : _ = AV.v (.int _ _))) ?_
      refine DL_c (op_bsF _ _ inferInstance rfl (by rfl) (by simp <;> rfl) (by decide) rfl) ?_
      refine DL_c (op_ap (44, 0) _ _ inferInstance rfl rfl (by (simp only [isl_len, bsl_len, psl_len, mrows_len, nsl_len, ws_len, List.length_map, ul_len, psl_len, isl_len, nrows_len, mmap_len]; omega)) (by (refine .sl ?_; (simp [isl]; done))) (by omega) rfl (rfl) (rfl)) ?_
      refine DL_c (op_nilp _ rfl rfl) ?_
      refine DL_c (op_fldP _ inferInstance rfl rfl rfl) ?_
      refine DL_c (op_stB _ _ inferInstance rfl rfl rfl rfl (Nat.le_of_ble_eq_true rfl) rfl) ?_
      refine DL_nil (hK12 _ ?_)
      clear hK12; try clear K12
      refine D_seq fun K13 hK13 => ?_
      refine D_le (σ' := mkStI 48 [(7, _)] [((0, 9), _), ((1, 9), _), ((3, 9), _), ((60, 0), _), ((44, 0), _)] [(0, 9), (1, 9), (3, 9), (60, 0), (44, 0)] [(0, 9), (1, 9), (3, 9)]) (by
        refine Le.mkJ [] [] rfl ?_ ?_ trivial ⟨rfl, rfl, rfl, trivial⟩ ?_
        · exact ⟨(iV rfl), trivial⟩
        · exact ⟨(obE rfl rfl rfl), (obE rfl rfl rfl), (obE rfl rfl rfl), (obE rfl rfl rfl), (obE rfl rfl rfl), trivial⟩
        · kernel_rfl) ?_
      refine D_region ?_
      refine DL_c (op_mv _ (rfl : _ = AV.v (.int _ _))) ?_
      refine DL_c (op_as _ (rfl : _ = AV.v (.int _ _))) ?_
      refine DL_nil (hK13 _ ?_)
      clear hK13; try clear K13
      refine D_ret ?_
      exact ret1 (.inr rfl) rfl (.tmp (rfl : _ = AV.v (.int _ _))) (Le.outI [((2, 8), (44, 0)), ((4, 8), (60, 0))] [] (lvI hnx.symm) rfl rfl rfl trivial ⟨⟨rfl, ⟨_, rfl, .box rfl (lv_cons .fp (lv_cons .v (lv_cons .sl (lv_cons (.fn rfl (lv_cons (lvPr rfl) lv_nil) rfl lv_nil) (lv_cons .mp (lv_cons (lvRr rfl hol) lv_nil))))))⟩, rfl⟩, ⟨rfl, ⟨_, rfl, .mp⟩, rfl⟩, ⟨rfl, ⟨_, rfl, .rowE (nsl_snoc _ _)⟩, rfl⟩, ⟨rfl, ⟨_, rfl, .box rfl (lv_cons .sl (lv_cons (lvRr rfl rfl) lv_nil))⟩, rfl⟩, ⟨rfl, ⟨_, rfl, .rowE rfl⟩, rfl⟩, trivial⟩ ⟨rfl, rfl, rfl, trivial⟩ rfl)
  · skip
    have hnx : st.getD v 2 = nst st v := by unfold nst; rw [if_neg (fun h => h.1 hg27)]
    refine DL_cn rfl rfl (by decide) ?_
    refine DL_cn rfl rfl (by decide) ?_
    refine DL_c (op_pick _ _ _ rfl (rfl : _ = AV.v (.bool _))) ?_
    refine DL_nil (hK7 _ ?_)
    clear hK7; try clear K7
    refine D_cF rfl rfl ?_
    refine D_skip (hK6 _ ?_)
    clear hK6; try clear K6
    refine D_seq fun K14 hK14 => ?_
    refine D_region ?_
    refine DL_c (op_mv _ (rfl : _ = AV.ptr _ _)) ?_
    refine DL_c (op_nilp _ rfl rfl) ?_
    refine DL_c (op_fldP _ inferInstance rfl rfl rfl) ?_
    refine DL_c (op_ldB _ inferInstance rfl rfl (rfl : _ = some (AV.mp _))) ?_
    refine DL_c (op_mv _ (rfl : _ = AV.v (.int _ _))) ?_
    refine DL_c (op_mv _ (rfl : _ = AV.v (.int _ _))) ?_
    refine DL_c (op_updM _ _ _ Try.underlying134 Try.underlying3 rfl rfl rfl rfl rfl hm (mmap_app' hnx) rfl) ?_
    refine DL_nil (hK14 _ ?_)
    clear hK14; try clear K14
    refine D_seq fun K15 hK15 => ?_
    refine D_region ?_
    refine DL_c (op_mv _ (rfl : _ = AV.ptr _ _)) ?_
    refine DL_c (op_mv _ (rfl : _ = AV.ptr _ _)) ?_
    refine DL_c (op_nilp _ rfl rfl) ?_
    refine DL_c (op_fldP _ inferInstance rfl rfl rfl) ?_
    refine DL_c (op_ldB _ inferInstance rfl rfl (rfl : _ = some (AV.ref _ _ _))) ?_
    refine DL_c (op_mv _ (rfl : _ = AV.v (.int _ _))) ?_
    refine DL_c (op_bsF _ _ inferInstance rfl (by rfl) (by simp <;> rfl) (by decide) rfl) ?_
    refine DL_c (op_ap (44, 0) _ _ inferInstance rfl rfl (by (simp only [isl_len, bsl_len, psl_len, mrows_len, nsl_len, ws_len, List.length_map, ul_len, psl_len, isl_len, nrows_len, mmap_len]; omega)) (by (refine .sl ?_; (simp [isl]; done))) (by omega) rfl (rfl) (rfl)) ?_
    refine DL_c (op_nilp _ rfl rfl) ?_
    refine DL_c (op_fldP _ inferInstance rfl rfl rfl) ?_
    refine DL_c (op_stB _ _ inferInstance rfl rfl rfl rfl (Nat.le_of_ble_eq_true rfl) rfl) ?_
    refine DL_nil (hK15 _ ?_)
    clear hK15; try clear K15
    refine D_seq fun K16 hK16 => ?_
    refine D_le (σ' := mkStI 48 [(7, _)] [((0, 9), _), ((1, 9), _), ((3, 9), _), ((60, 0), _), ((44, 0), _)] [(0, 9), (1, 9), (3, 9), (60, 0), (44, 0)] [(0, 9), (1, 9), (3, 9)]) (by
      refine Le.mkJ [] [] rfl ?_ ?_ trivial ⟨rfl, rfl, rfl, trivial⟩ ?_
      · exact ⟨(iV rfl), trivial⟩
      · exact ⟨(obE rfl rfl rfl), (obE rfl rfl rfl), (obE rfl rfl rfl), (obE rfl rfl rfl), (obE rfl rfl rfl), trivial⟩
      · kernel_rfl) ?_
    refine D_region ?_
    refine DL_c (op_mv _ (rfl : _ = AV.v (.int _ _))) ?_
    refine DL_c (op_as _ (rfl : _ = AV.v (.int _ _))) ?_
    refine DL_nil (hK16 _ ?_)
    clear hK16; try clear K16
    refine D_ret ?_
    exact ret1 (.inr rfl) rfl (.tmp (rfl : _ = AV.v (.int _ _))) (Le.outI [((2, 8), (44, 0)), ((4, 8), (60, 0))] [] (lvI hnx.symm) rfl rfl rfl trivial ⟨⟨rfl, ⟨_, rfl, .box rfl (lv_cons .fp (lv_cons .v (lv_cons .sl (lv_cons (.fn rfl (lv_cons (lvPr rfl) lv_nil) rfl lv_nil) (lv_cons .mp (lv_cons (lvRr rfl hol) lv_nil))))))⟩, rfl⟩, ⟨rfl, ⟨_, rfl, .mp⟩, rfl⟩, ⟨rfl, ⟨_, rfl, .rowE (nsl_snoc _ _)⟩, rfl⟩, ⟨rfl, ⟨_, rfl, .box rfl (lv_cons .sl (lv_cons (lvRr rfl rfl) lv_nil))⟩, rfl⟩, ⟨rfl, ⟨_, rfl, .rowE rfl⟩, rfl⟩, trivial⟩ ⟨rfl, rfl, rfl, trivial⟩ rfl)
theorem try_spec (n : Nat) (P A : List Nat) (hn : n ≤ 64) (h : Nat) (sc : List Nat) (st : List Int) (h1 : st.length ≤ 4611686018427387904) (ord : List Nat) (ho : ok1 n ord) (v : Nat) :
    Spec Try.prog 107 (inStI [.ptr (0, 9) 0, .v (.int .i64 (v : Int))] (SSL n P A h sc st ord)) (outStI (.v (.int .i64 (nst st v))) (SSO n P A h sc st (adN ord v)) I5o P3) := by
  have := ho.len
  unfold adN
  split
  · rename_i hv; exact try_known n P A h sc st ord v hv
  · rename_i hv; exact try_new n P A h sc st h1 ord (by omega) v hv
end Go.Proofs.Ytkbkmngbenohkaa

namespace Go.Proofs.Ytkbkmngbenohkaa
open Go.RowKit

/-- The map of those that were visited. -/
def smap (out : List Nat) : List (Int × Value) := out.map fun (v : Nat) => ((v : Int), .bool true)
@[simp] theorem smap_len (out : List Nat) : (smap out).length = out.length := by simp [smap]
theorem smap_none {out : List Nat} {v : Nat} (h : v ∉ out) : mget (smap out) (v : Int) = none := by
  refine mget_none fun p hp e => h ?_
  simp only [smap, List.mem_map] at hp
  obtain ⟨u, hu, rfl⟩ := hp
  have : u = v := by simp only at e; omega
  exact this ▸ hu
theorem smap_some {out : List Nat} {v : Nat} (h : v ∈ out) : mget (smap out) (v : Int) = some (.bool true) := by
  refine mget_some ⟨_, List.mem_map_of_mem h, rfl⟩ fun p hp e => ?_
  simp only [smap, List.mem_map] at hp
  obtain ⟨u, hu, rfl⟩ := hp
  rfl
theorem smap_look (out : List Nat) (v : Nat) : (mget (smap out) (v : Int)).getD (.bool false) = .bool (decide (v ∈ out)) := by
  by_cases h : v ∈ out
  · rw [smap_some h, decide_eq_true h]; rfl
  · rw [smap_none h, decide_eq_false h]; rfl
theorem smap_app (out : List Nat) (v : Nat) : smap out ++ [((v : Int), .bool true)] = smap (out ++ [v]) := by simp [smap]
/-- What the visit gets beside the search. -/
abbrev VIL (out : List Nat) : List (Oid × Cells) :=
  [((5, 9), .box 133 [.ptr (0, 9) 0]), ((6, 9), .box 158 [.mp (7, 9)]), ((7, 9), .mp (ment (smap out)) (smap out).length), ((8, 9), .box 29 [.ref (9, 9) 0 out.length]), ((9, 9), .row 3 1 (nsl out)),
   ((10, 9), .box 100 [.fn (.func 134) [] [.ptr (5, 9) 0, .ptr (6, 9) 0, .ptr (8, 9) 0, .ptr (10, 9) 0]])]
abbrev VOL (out : List Nat) : List (Oid × Cells) :=
  [((5, 9), .box 133 [.ptr (0, 9) 0]), ((6, 9), .box 158 [.mp (7, 9)]), ((7, 9), .mp (ment (smap out)) (smap out).length), ((8, 9), .box 29 [.ref (9, 8) 0 out.length]), ((9, 8), .row 3 1 (nsl out)),
   ((10, 9), .box 100 [.fn (.func 134) [] [.ptr (5, 9) 0, .ptr (6, 9) 0, .ptr (8, 9) 0, .ptr (10, 9) 0]])]
abbrev I11o : List Oid := [(0, 9), (1, 9), (2, 8), (3, 9), (4, 8), (5, 9), (6, 9), (7, 9), (8, 9), (9, 8), (10, 9)]
abbrev P8 : List Oid := [(0, 9), (1, 9), (3, 9), (5, 9), (6, 9), (7, 9), (8, 9), (10, 9)]
set_option maxHeartbeats 4000000 in
theorem visit_spec (n : Nat) (P A : List Nat) (hP : P.length = n) (hA : A.length = n) (hn : n ≤ 64) (hwP : ∀ v, P.getD v 0 < 18446744073709551616) (hwA : ∀ v, A.getD v 0 < 18446744073709551616) (hpar : ∀ v p : Nat, p ∈ wat n P (v : Int) → p < n)
    (h : Nat) (sc : List Nat) (st : List Int) (h1 : st.length ≤ 4611686018427387904) : ∀ (k v : Nat) (ord out : List Nat), ok1 n ord → ok1 n out → n + 1 ≤ out.length + k →
    Spec Try.prog 134 (inStI [.v (.int .i64 (v : Int)), .ptr (5, 9) 0, .ptr (6, 9) 0, .ptr (8, 9) 0, .ptr (10, 9) 0] (SSL n P A h sc st ord ++ VIL out))
      (outStI (.v (.bool (vis (fun o => con (anR n A) n o st) (unN st) (fun v => wat n P (v : Int)) k v (ord, out)).2))
        (SSO n P A h sc st (vis (fun o => con (anR n A) n o st) (unN st) (fun v => wat n P (v : Int)) k v (ord, out)).1.1 ++ VOL (vis (fun o => con (anR n A) n o st) (unN st) (fun v => wat n P (v : Int)) k v (ord, out)).1.2) I11o P8) := by
  intro k
  induction k with
  | zero => intro v ord out _ h2 hk; have := h2.len; omega
  | succ k ih =>
    intro v ord out ho1 ho2 hk
    obtain ⟨res, hres⟩ : ∃ r, r = vis (fun o => con (anR n A) n o st) (unN st) (fun v => wat n P (v : Int)) (k + 1) v (ord, out) := ⟨_, rfl⟩
    rw [← hres]
    have hpa := parents_spec n P A hP hn hwP (v : Int)
    have hLn : ∀ p ∈ wat n P (v : Int), p < n := fun p hp => hpar v p hp
    have hLl := wat_len (n := n) P (v : Int)
    have hun : vis (fun o => con (anR n A) n o st) (unN st) (fun v => wat n P (v : Int)) (k + 1) v (ord, out) = vlist (vstep (fun o => con (anR n A) n o st) (unN st) (vis (fun o => con (anR n A) n o st) (unN st) (fun v => wat n P (v : Int)) k)) (wat n P (v : Int)) (ord, out) := rfl
    rw [hun] at hres
    clear hun
    obtain ⟨stp, hstp⟩ : ∃ s, s = vstep (fun o => con (anR n A) n o st) (unN st) (vis (fun o => con (anR n A) n o st) (unN st) (fun v => wat n P (v : Int)) k) := ⟨_, rfl⟩
    have hvl := fun i => vlist_ok (cf := fun o => con (anR n A) n o st) (un := unN st) (par := fun v => wat n P (v : Int)) (n := n) (k := k) (fun v _ p hp => hpar v p hp) (l := (wat n P (v : Int)).take i) (q := (ord, out)) (fun p hp => hLn p (List.mem_of_mem_take hp)) ho1 ho2
    rw [← hstp] at hres hvl
    generalize wat n P (v : Int) = L at *
    obtain ⟨Q, hQ⟩ : ∃ Q : Nat → VS, Q = fun i => (vlist stp (L.take i) (ord, out)).1 := ⟨_, rfl⟩
    have hQi : ∀ i, (vlist stp (L.take i) (ord, out)).1 = Q i := fun i => by rw [hQ]
    have hQ0 : Q 0 = (ord, out) := by rw [hQ]; rfl
    simp only [hQi] at hvl
    have hsuc : ∀ i, i < L.length → (vlist stp (L.take i) (ord, out)).2 = true → vlist stp (L.take (i + 1)) (ord, out) = stp (L.getD i 0) (Q i) := fun i hi ht => by rw [vlist_succ hi ht, hQi]
    have hret : ∀ i, i < L.length → (vlist stp (L.take i) (ord, out)).2 = true → (stp (L.getD i 0) (Q i)).2 = false → res = stp (L.getD i 0) (Q i) := fun i hi ht hf => by
      have e := hsuc i hi ht
      rw [hres, vlist_stop (i := i + 1) (by rw [e]; exact hf), e]
    have hnext : ∀ i, i < L.length → (vlist stp (L.take i) (ord, out)).2 = true → (stp (L.getD i 0) (Q i)).2 = true → (vlist stp (L.take (i + 1)) (ord, out)).2 = true ∧ Q (i + 1) = (stp (L.getD i 0) (Q i)).1 := fun i hi ht hf => by
      have e := hsuc i hi ht
      refine ⟨by rw [e]; exact hf, ?_⟩
      rw [← hQi, e]
    have hend : (vlist stp (L.take L.length) (ord, out)).2 = true → res = (Q L.length, true) := fun ht => by
      rw [hres, ← hQi]
      rw [List.take_length] at ht ⊢
      exact Prod.ext rfl ht
    refine Spec.ofNI Try.func134 rfl Try.ntmps134 rfl ?_
    refine D_seq fun K1 hK1 => ?_
    refine D_region ?_
    refine DL_c (op_as _ (rfl : _ = AV.v (.bool _))) ?_
    refine DL_nil (hK1 _ ?_)
    clear hK1; try clear K1
    refine D_seq fun K2 hK2 => ?_
    refine D_seq fun K3 hK3 => ?_
    refine D_region ?_
    refine DL_c (op_ldB _ inferInstance rfl rfl (rfl : _ = some (AV.ptr _ _))) ?_
    refine DL_c (op_nilp _ rfl rfl) ?_
    refine DL_c (op_fldP _ inferInstance rfl rfl rfl) ?_
    refine DL_c (op_ldB _ inferInstance rfl rfl (rfl : _ = some (AV.fp _ _))) ?_
    refine DL_c (op_mv _ (rfl : _ = AV.v (.int _ _))) ?_
    refine DL_c (op_callH inferInstance (by repeat' (first | exact argsLv_nil | refine argsLv_cons ?_ ?_ | exact Lv.v | exact Lv.fp)) (hpa) rfl rfl) ?_
    refine DL_c (op_lenS _ inferInstance rfl) ?_
    refine DL_c (op_mv _ (rfl : _ = AV.v (.int _ _))) ?_
    refine DL_nil (hK3 _ ?_)
    clear hK3; try clear K3
    refine D_block ?_
    refine D_loopL (α := Nat) (fun i => i ≤ L.length ∧ (vlist stp (L.take i) (ord, out)).2 = true) 44 [(1, _), (2, _), (3, _), (4, _), (15, _), (16, _)] [((5, 9), _), ((6, 9), _), ((10, 9), _)] (fun i => [(17, .v (.int .i64 (i : Int)))]) (fun i => [((0, 9), .box 136 [.fp 0 (gra n P A), .v (.int .i64 (h : Int)), .sl sc.length (nsl sc), .fn (.func 73) [.ptr (3, 9) 0] [], .mp (1, 9), .ref (2, 9) 0 (Q i).1.length]), ((1, 9), .mp (ment (mmap st (Q i).1)) (mmap st (Q i).1).length), ((2, 9), .row 3 1 (nsl (Q i).1)), ((3, 9), .box 93 [.sl st.length (isl st), .ref (4, 9) 0 (Q i).1.length]), ((4, 9), .row 3 1 (nsl (Q i).1)), ((7, 9), .mp (ment (smap (Q i).2)) (smap (Q i).2).length), ((8, 9), .box 29 [.ref (9, 9) 0 (Q i).2.length]), ((9, 9), .row 3 1 (nsl (Q i).2))]) [(0, 9), (1, 9), (2, 9), (3, 9), (4, 9), (5, 9), (6, 9), (7, 9), (8, 9), (9, 9), (10, 9)] [(0, 9), (1, 9), (3, 9), (5, 9), (6, 9), (7, 9), (8, 9), (10, 9)] (fun i => L.length - i) 0 ?_ (by
      refine Le.mkJ [] [] rfl ?_ ?_ trivial ⟨rfl, rfl, rfl, rfl, rfl, rfl, rfl, rfl, trivial⟩ ?_
      · exact ⟨(iP rfl), (iP rfl), (iP rfl), (iP rfl), (iS rfl), (iV rfl), (lvI (by rfl)), trivial⟩
      · exact ⟨(obE rfl rfl rfl), (obE rfl rfl rfl), (obE rfl rfl rfl), (obB rfl rfl rfl rfl (lv_cons (by repeat' (exact Lv.fp)) (lv_cons (lvI (by rfl)) (lv_cons (lvSr (by rfl) (by rfl)) (lv_cons (by repeat' (first | exact lvPr rfl | refine Lv.fn rfl ?_ rfl ?_ | exact lv_nil | refine lv_cons ?_ ?_)) (lv_cons (by repeat' (exact Lv.mp)) (lv_cons (lvRr rfl (by (rw [hQ0]))) lv_nil))))))), (obM rfl rfl rfl (by (rw [hQ0])) (by (rw [hQ0]))), (obR rfl rfl rfl (by (rw [hQ0]))), (obB rfl rfl rfl rfl (lv_cons (lvSr (by rfl) (by rfl)) (lv_cons (lvRr rfl (by (rw [hQ0]))) lv_nil))), (obR rfl rfl rfl (by (rw [hQ0]))), (obM rfl rfl rfl (by (rw [hQ0])) (by (rw [hQ0]))), (obB rfl rfl rfl rfl (lv_cons (lvRr rfl (by (rw [hQ0]))) lv_nil)), (obR rfl rfl rfl (by (rw [hQ0]))), trivial⟩
      · kernel_rfl) ?_
    · exact ⟨Nat.zero_le _, rfl⟩
    intro i hi
    obtain ⟨hi, ht⟩ := hi
    obtain ⟨hk1, hk2, _, hpre⟩ := hvl i
    have hle := pre_len hpre
    have hk1l := hk1.len
    have hk2l := hk2.len
    have hQs := hret i
    have hQn := hnext i
    obtain ⟨o, hoq⟩ : ∃ o, o = (Q i).1 := ⟨_, rfl⟩
    obtain ⟨u, huq⟩ : ∃ u, u = (Q i).2 := ⟨_, rfl⟩
    have hou : Q i = (o, u) := Prod.ext hoq.symm huq.symm
    rw [hou] at hQs hQn
    rw [← hoq] at hk1 hk1l
    rw [← huq] at hk2 hpre hle hk2l
    rw [← hoq, ← huq]
    refine D_seq fun K4 hK4 => ?_
    refine D_region ?_
    refine DL_c (op_lss _ _ rfl rfl rfl) ?_
    refine DL_nil (hK4 _ ?_)
    clear hK4; try clear K4
    refine D_seq fun K5 hK5 => ?_
    refine D_splitC rfl (fun hc18 => ?_) (fun hc18 => ?_)
    · skip
      obtain ⟨p, hp⟩ : ∃ p, p = L.getD i 0 := ⟨_, rfl⟩
      have hpn : p < n := hp ▸ hLn _ (getD_mem (by omega))
      have hQs := hQs (by omega) ht
      have hQn := hQn (by omega) ht
      rw [← hp] at hQs hQn
      have hko := adN_ok hk1 hpn
      have hkol := hko.len
      refine D_skip (hK5 _ ?_)
      clear hK5; try clear K5
      refine D_seq fun K6 hK6 => ?_
      refine D_block ?_
      refine D_seq fun K7 hK7 => ?_
      refine D_region ?_
      refine DL_c (op_ixS _ _ inferInstance rfl rfl _ rfl (by omega) (by (simp only [isl_len, bsl_len, psl_len, mrows_len, nsl_len, ws_len, List.length_map, ul_len, psl_len, isl_len, nrows_len, mmap_len, smap_len]; omega)) (by exact Nat.mul_one _)) ?_
      refine DL_c (op_ldF _ inferInstance rfl (by exact (nsl_get _ _ (by omega)).trans (by rw [← hp])) rfl) ?_
      refine DL_c (op_as _ (rfl : _ = AV.v (.int _ _))) ?_
      refine DL_nil (hK7 _ ?_)
      clear hK7; try clear K7
      refine D_seq fun K8 hK8 => ?_
      refine D_region ?_
      refine DL_c (op_ldB _ inferInstance rfl rfl (rfl : _ = some (AV.ptr _ _))) ?_
      refine DL_c (op_mv _ (rfl : _ = AV.v (.int _ _))) ?_
      refine DL_c (op_callP inferInstance [((2, 8), (62, 0)), ((4, 8), (64, 0))] ?_ (try_spec n P A hn h sc st h1 o hk1 p) (insK ⟨rfl, rfl, rfl, rfl, rfl, trivial⟩ rfl rfl) ⟨rfl, rfl, rfl, rfl, rfl, trivial⟩ (by kernel_rfl)) ?_
      · repeat' (first | exact argsR_nil | refine argsR_cons ?_ ?_ | exact Lv.v | exact lvPr rfl)
      refine DL_c (op_as _ (rfl : _ = AV.v (.int _ _))) ?_
      refine DL_nil (hK8 _ ?_)
      clear hK8; try clear K8
      refine D_seq fun K9 hK9 => ?_
      refine D_seq fun K10 hK10 => ?_
      refine D_le (σ' := mkStI 44 [(1, _), (2, _), (3, _), (4, _), (8, _), (9, _), (15, _), (16, _), (17, _)] [((5, 9), _), ((6, 9), _), ((10, 9), _), ((0, 9), .box _ [_, _, _, _, _, .ref (2, 9) _ _]), ((1, 9), _), ((3, 9), .box _ [_, .ref (4, 9) _ _]), ((7, 9), _), ((8, 9), _), ((9, 9), _), ((2, 9), _), ((4, 9), _)] [(0, 9), (1, 9), (2, 9), (3, 9), (4, 9), (5, 9), (6, 9), (7, 9), (8, 9), (9, 9), (10, 9)] [(0, 9), (1, 9), (3, 9), (5, 9), (6, 9), (7, 9), (8, 9), (10, 9)]) (by
        refine Le.mkJ [((2, 9), (62, 0)), ((4, 9), (64, 0))] [] rfl ?_ ?_ trivial ⟨rfl, rfl, rfl, rfl, rfl, rfl, rfl, rfl, trivial⟩ ?_
        · exact ⟨(lvW [(5, 9), (6, 9), (10, 9), (0, 9), (1, 9), (3, 9), (7, 9), (8, 9), (9, 9)] rfl (rfl : _ = AV.ptr _ _) rfl), (lvW [(5, 9), (6, 9), (10, 9), (0, 9), (1, 9), (3, 9), (7, 9), (8, 9), (9, 9)] rfl (rfl : _ = AV.ptr _ _) rfl), (lvW [(5, 9), (6, 9), (10, 9), (0, 9), (1, 9), (3, 9), (7, 9), (8, 9), (9, 9)] rfl (rfl : _ = AV.ptr _ _) rfl), (lvW [(5, 9), (6, 9), (10, 9), (0, 9), (1, 9), (3, 9), (7, 9), (8, 9), (9, 9)] rfl (rfl : _ = AV.ptr _ _) rfl), (lvW [(5, 9), (6, 9), (10, 9), (0, 9), (1, 9), (3, 9), (7, 9), (8, 9), (9, 9)] rfl (rfl : _ = AV.v _) rfl), (lvW [(5, 9), (6, 9), (10, 9), (0, 9), (1, 9), (3, 9), (7, 9), (8, 9), (9, 9)] rfl (rfl : _ = AV.v _) rfl), (lvW [(5, 9), (6, 9), (10, 9), (0, 9), (1, 9), (3, 9), (7, 9), (8, 9), (9, 9)] rfl (rfl : _ = AV.sl _ _) rfl), (lvW [(5, 9), (6, 9), (10, 9), (0, 9), (1, 9), (3, 9), (7, 9), (8, 9), (9, 9)] rfl (rfl : _ = AV.v _) rfl), (lvW [(5, 9), (6, 9), (10, 9), (0, 9), (1, 9), (3, 9), (7, 9), (8, 9), (9, 9)] rfl (rfl : _ = AV.v _) rfl), trivial⟩
        · exact ⟨(obW [(5, 9), (6, 9), (10, 9), (0, 9), (1, 9), (3, 9), (7, 9), (8, 9), (9, 9)] rfl rfl rfl rfl rfl), (obW [(5, 9), (6, 9), (10, 9), (0, 9), (1, 9), (3, 9), (7, 9), (8, 9), (9, 9)] rfl rfl rfl rfl rfl), (obW [(5, 9), (6, 9), (10, 9), (0, 9), (1, 9), (3, 9), (7, 9), (8, 9), (9, 9)] rfl rfl rfl rfl rfl), (obB rfl rfl rfl rfl (lv_cons (by exact lvW [(5, 9), (6, 9), (10, 9), (0, 9), (1, 9), (3, 9), (7, 9), (8, 9), (9, 9)] rfl (rfl : _ = AV.fp _ _) rfl) (lv_cons (by exact lvW [(5, 9), (6, 9), (10, 9), (0, 9), (1, 9), (3, 9), (7, 9), (8, 9), (9, 9)] rfl (rfl : _ = AV.v _) rfl) (lv_cons (by exact lvW [(5, 9), (6, 9), (10, 9), (0, 9), (1, 9), (3, 9), (7, 9), (8, 9), (9, 9)] rfl (rfl : _ = AV.sl _ _) rfl) (lv_cons (by exact lvW [(5, 9), (6, 9), (10, 9), (0, 9), (1, 9), (3, 9), (7, 9), (8, 9), (9, 9)] rfl (rfl : _ = AV.fn _ _ _) rfl) (lv_cons (by exact lvW [(5, 9), (6, 9), (10, 9), (0, 9), (1, 9), (3, 9), (7, 9), (8, 9), (9, 9)] rfl (rfl : _ = AV.mp _) rfl) (lv_cons (lvRr rfl (by rfl)) lv_nil))))))), (by exact obM rfl rfl rfl rfl rfl), (obB rfl rfl rfl rfl (lv_cons (by exact lvW [(5, 9), (6, 9), (10, 9), (0, 9), (1, 9), (3, 9), (7, 9), (8, 9), (9, 9)] rfl (rfl : _ = AV.sl _ _) rfl) (lv_cons (lvRr rfl (by rfl)) lv_nil))), (by exact obM rfl rfl rfl rfl rfl), (obW [(5, 9), (6, 9), (10, 9), (0, 9), (1, 9), (3, 9), (7, 9), (8, 9), (9, 9)] rfl rfl rfl rfl rfl), (by exact obR rfl rfl rfl rfl), (by exact obR rfl rfl rfl rfl), (by exact obR rfl rfl rfl rfl), trivial⟩
        · kernel_rfl) ?_
      refine D_region ?_
      refine DL_c (op_ldB _ inferInstance rfl rfl (rfl : _ = some (AV.ptr _ _))) ?_
      refine DL_c (op_callK0 inferInstance _ _ (by repeat' (first | exact argsR_nil | refine argsR_cons ?_ ?_ | exact lvPr rfl)) (con_spec n P A hA hn hwA h sc st (adN o p) hko) ⟨rfl, rfl, rfl, rfl, rfl, trivial⟩ rfl (by kernel_rfl) (by simp)) ?_
      refine DL_nil (hK10 _ ?_)
      clear hK10; try clear K10
      refine D_splitC rfl (fun hc25 => ?_) (fun hc25 => ?_)
      · skip
        refine D_seq fun K11 hK11 => ?_
        refine D_region ?_
        refine DL_c (op_as _ (rfl : _ = AV.v (.bool _))) ?_
        refine DL_nil (hK11 _ ?_)
        clear hK11; try clear K11
        refine D_ret ?_
        have e : stp p (o, u) = ((adN o p, u), false) := by rw [hstp, vstep]; rw [if_pos hc25]
        rw [e] at hQs
        have hr := hQs rfl
        subst hr
        exact ret1 (.inr rfl) rfl (.tmp (rfl : _ = AV.v (.bool _))) (Le.outI [((2, 8), (2, 9)), ((4, 8), (4, 9)), ((9, 8), (9, 9))] [] (lvB (rfl)) rfl rfl rfl trivial ⟨⟨rfl, ⟨_, rfl, .box rfl (lv_cons .fp (lv_cons .v (lv_cons .sl (lv_cons (.fn rfl (lv_cons (lvPr rfl) lv_nil) rfl lv_nil) (lv_cons .mp (lv_cons (lvRr rfl rfl) lv_nil))))))⟩, rfl⟩, ⟨rfl, ⟨_, rfl, .mp⟩, rfl⟩, ⟨rfl, ⟨_, rfl, .rowE rfl⟩, rfl⟩, ⟨rfl, ⟨_, rfl, .box rfl (lv_cons .sl (lv_cons (lvRr rfl rfl) lv_nil))⟩, rfl⟩, ⟨rfl, ⟨_, rfl, .rowE rfl⟩, rfl⟩, ⟨rfl, ⟨_, rfl, .box rfl (lv_cons (lvPr rfl) lv_nil)⟩, rfl⟩, ⟨rfl, ⟨_, rfl, .box rfl (lv_cons .mp lv_nil)⟩, rfl⟩, ⟨rfl, ⟨_, rfl, .mp⟩, rfl⟩, ⟨rfl, ⟨_, rfl, .box rfl (lv_cons (lvRr rfl rfl) lv_nil)⟩, rfl⟩, ⟨rfl, ⟨_, rfl, .rowE rfl⟩, rfl⟩, ⟨rfl, ⟨_, rfl, .box rfl (lv_cons (.fn rfl lv_nil rfl (lv_cons (lvPr rfl) (lv_cons (lvPr rfl) (lv_cons (lvPr rfl) (lv_cons (lvPr rfl) lv_nil))))) lv_nil)⟩, rfl⟩, trivial⟩ ⟨rfl, rfl, rfl, rfl, rfl, rfl, rfl, rfl, trivial⟩ rfl)
      · skip
        refine D_skip (hK9 _ ?_)
        clear hK9; try clear K9
        refine D_seq fun K12 hK12 => ?_
        refine D_seq fun K13 hK13 => ?_
        refine D_region ?_
        refine DL_c (op_mv _ (rfl : _ = AV.v (.int _ _))) ?_
        refine DL_c (op_neq _ _ rfl rfl rfl) ?_
        refine DL_c (op_mv _ (rfl : _ = AV.v (.bool _))) ?_
        refine DL_caseC (fun hg28 => ?_) (fun hg28 => ?_)
        · skip
          have hu : unN st p = false := decide_eq_false hg28
          have e : stp p (o, u) = ((adN o p, u), true) := by rw [hstp, vstep, if_neg (by simp [hc25]), if_neg (by simp [hu])]
          rw [e] at hQn
          have hq := hQn rfl
          refine DL_cn rfl rfl (by decide) ?_
          refine DL_cn rfl rfl (by decide) ?_
          refine DL_cn rfl rfl (by decide) ?_
          refine DL_c (op_pick _ _ _ rfl (rfl : _ = AV.v (.bool _))) ?_
          refine DL_nil (hK13 _ ?_)
          clear hK13; try clear K13
          refine D_cT rfl rfl ?_
          refine D_exit ?_
          refine id (hK6 _ ?_)
          clear hK6; try clear K6
          refine D_region ?_
          refine DL_c (op_add _ _ rfl rfl (i64w (by omega))) ?_
          refine DL_c (op_mv _ (rfl : _ = AV.v (.int _ _))) ?_
          refine DL_nil ?_
          refine ⟨i + 1, ?_, ?_, ?_⟩
          · exact ⟨by omega, hq.1⟩
          · skip
            refine Le.mkJ [] [] rfl ?_ ?_ trivial ⟨rfl, rfl, rfl, rfl, rfl, rfl, rfl, rfl, trivial⟩ ?_
            · exact ⟨(iP rfl), (iP rfl), (iP rfl), (iP rfl), (iS rfl), (iV rfl), (lvI (by rfl)), trivial⟩
            · exact ⟨(obE rfl rfl rfl), (obE rfl rfl rfl), (obE rfl rfl rfl), (obB rfl rfl rfl rfl (lv_cons (by repeat' (exact Lv.fp)) (lv_cons (lvI (by rfl)) (lv_cons (lvSr (by rfl) (by rfl)) (lv_cons (by repeat' (first | exact lvPr rfl | refine Lv.fn rfl ?_ rfl ?_ | exact lv_nil | refine lv_cons ?_ ?_)) (lv_cons (by repeat' (exact Lv.mp)) (lv_cons (lvRr rfl (by (rw [hq.2]))) lv_nil))))))), (obM rfl rfl rfl (by (rw [hq.2])) (by (rw [hq.2]))), (obR rfl rfl rfl (by (rw [hq.2]))), (obB rfl rfl rfl rfl (lv_cons (lvSr (by rfl) (by rfl)) (lv_cons (lvRr rfl (by (rw [hq.2]))) lv_nil))), (obR rfl rfl rfl (by (rw [hq.2]))), (obM rfl rfl rfl (by (rw [hq.2])) (by (rw [hq.2]))), (obB rfl rfl rfl rfl (lv_cons (lvRr rfl (by (rw [hq.2]))) lv_nil)), (obR rfl rfl rfl (by (rw [hq.2]))), trivial⟩
            · kernel_rfl
          · omega
        · skip
          have hu : unN st p = true := decide_eq_true hg28
          refine DL_cy rfl rfl (op_ldB _ inferInstance rfl rfl (rfl : _ = some (AV.mp _))) ?_
          refine DL_cy rfl rfl (op_mv _ (rfl : _ = AV.v (.int _ _))) ?_
          refine DL_cy rfl rfl (op_look1 _ _ Try.underlying158 Try.underlying3 Try.zeroValue4 rfl rfl rfl (smap_look u p)) ?_
          refine DL_c (op_pick _ _ _ rfl (rfl : _ = AV.v (.bool _))) ?_
          refine DL_nil (hK13 _ ?_)
          clear hK13; try clear K13
          refine D_splitC rfl (fun hc32 => ?_) (fun hc32 => ?_)
          · skip
            have e : stp p (o, u) = ((adN o p, u), true) := by rw [hstp, vstep, if_neg (by simp [hc25]), if_neg (fun h => h.2 hc32)]
            rw [e] at hQn
            have hq := hQn rfl
            refine D_exit ?_
            refine id (hK6 _ ?_)
            clear hK6; try clear K6
            refine D_region ?_
            refine DL_c (op_add _ _ rfl rfl (i64w (by omega))) ?_
            refine DL_c (op_mv _ (rfl : _ = AV.v (.int _ _))) ?_
            refine DL_nil ?_
            refine ⟨i + 1, ?_, ?_, ?_⟩
            · exact ⟨by omega, hq.1⟩
            · skip
              refine Le.mkJ [] [] rfl ?_ ?_ trivial ⟨rfl, rfl, rfl, rfl, rfl, rfl, rfl, rfl, trivial⟩ ?_
              · exact ⟨(iP rfl), (iP rfl), (iP rfl), (iP rfl), (iS rfl), (iV rfl), (lvI (by rfl)), trivial⟩
              · exact ⟨(obE rfl rfl rfl), (obE rfl rfl rfl), (obE rfl rfl rfl), (obB rfl rfl rfl rfl (lv_cons (by repeat' (exact Lv.fp)) (lv_cons (lvI (by rfl)) (lv_cons (lvSr (by rfl) (by rfl)) (lv_cons (by repeat' (first | exact lvPr rfl | refine Lv.fn rfl ?_ rfl ?_ | exact lv_nil | refine lv_cons ?_ ?_)) (lv_cons (by repeat' (exact Lv.mp)) (lv_cons (lvRr rfl (by (rw [hq.2]))) lv_nil))))))), (obM rfl rfl rfl (by (rw [hq.2])) (by (rw [hq.2]))), (obR rfl rfl rfl (by (rw [hq.2]))), (obB rfl rfl rfl rfl (lv_cons (lvSr (by rfl) (by rfl)) (lv_cons (lvRr rfl (by (rw [hq.2]))) lv_nil))), (obR rfl rfl rfl (by (rw [hq.2]))), (obM rfl rfl rfl (by (rw [hq.2])) (by (rw [hq.2]))), (obB rfl rfl rfl rfl (lv_cons (lvRr rfl (by (rw [hq.2]))) lv_nil)), (obR rfl rfl rfl (by (rw [hq.2]))), trivial⟩
              · kernel_rfl
            · omega
          · skip
            have hnp : p ∉ u := hc32
            have hih := ih p (adN o p) (u ++ [p]) hko (hk2.add hpn hnp) (by rw [List.length_append]; simp only [List.length_cons, List.length_nil]; omega)
            have e : stp p (o, u) = vis (fun o => con (anR n A) n o st) (unN st) (fun v => wat n P (v : Int)) k p (adN o p, u ++ [p]) := by rw [hstp, vstep, if_neg (by simp [hc25]), if_pos ⟨hu, hnp⟩]
            rw [← e] at hih
            generalize stp p (o, u) = rr at hih e hQs hQn
            refine D_skip (hK12 _ ?_)
            clear hK12; try clear K12
            refine D_seq fun K14 hK14 => ?_
            refine D_region ?_
            refine DL_c (op_ldB _ inferInstance rfl rfl (rfl : _ = some (AV.mp _))) ?_
            refine DL_c (op_mv _ (rfl : _ = AV.v (.int _ _))) ?_
            refine DL_c (op_updM _ _ _ Try.underlying158 Try.underlying3 rfl rfl rfl rfl rfl (smap_none hnp) (smap_app u p) rfl) ?_
            refine DL_nil (hK14 _ ?_)
            clear hK14; try clear K14
            refine D_seq fun K15 hK15 => ?_
            refine D_region ?_
            refine DL_c (op_ldB _ inferInstance rfl rfl (rfl : _ = some (AV.ref _ _ _))) ?_
            refine DL_c (op_mv _ (rfl : _ = AV.v (.int _ _))) ?_
            refine DL_c (op_bsF _ _ inferInstance rfl (by rfl) (by simp <;> rfl) (by decide) rfl) ?_
            refine DL_c (op_ap (38, 0) _ _ inferInstance rfl rfl (by rw [nsl_len, Nat.mul_one]) (.sl rfl) (by omega) rfl (nsl_snoc u p) (show u.length + 1 = (u ++ [p]).length by simp)) ?_
            refine DL_c (op_stB _ _ inferInstance rfl rfl rfl rfl (Nat.le_of_ble_eq_true rfl) rfl) ?_
            refine DL_nil (hK15 _ ?_)
            clear hK15; try clear K15
            refine D_seq fun K16 hK16 => ?_
            refine D_le (σ' := mkStI 44 [(1, _), (2, _), (3, _), (4, _), (8, _), (15, _), (16, _), (17, _)] [((5, 9), _), ((6, 9), _), ((10, 9), _), ((0, 9), _), ((1, 9), _), ((3, 9), _), ((7, 9), _), ((8, 9), .box _ [.ref (9, 9) _ _]), ((2, 9), _), ((4, 9), _), ((9, 9), _)] [(0, 9), (1, 9), (2, 9), (3, 9), (4, 9), (5, 9), (6, 9), (7, 9), (8, 9), (9, 9), (10, 9)] [(0, 9), (1, 9), (3, 9), (5, 9), (6, 9), (7, 9), (8, 9), (10, 9)]) (by
              refine Le.mkJ [((9, 9), (38, 0))] [] rfl ?_ ?_ trivial ⟨rfl, rfl, rfl, rfl, rfl, rfl, rfl, rfl, trivial⟩ ?_
              · exact ⟨(lvW [(5, 9), (6, 9), (10, 9), (0, 9), (1, 9), (3, 9), (7, 9), (8, 9), (2, 9), (4, 9)] rfl (rfl : _ = AV.ptr _ _) rfl), (lvW [(5, 9), (6, 9), (10, 9), (0, 9), (1, 9), (3, 9), (7, 9), (8, 9), (2, 9), (4, 9)] rfl (rfl : _ = AV.ptr _ _) rfl), (lvW [(5, 9), (6, 9), (10, 9), (0, 9), (1, 9), (3, 9), (7, 9), (8, 9), (2, 9), (4, 9)] rfl (rfl : _ = AV.ptr _ _) rfl), (lvW [(5, 9), (6, 9), (10, 9), (0, 9), (1, 9), (3, 9), (7, 9), (8, 9), (2, 9), (4, 9)] rfl (rfl : _ = AV.ptr _ _) rfl), (lvW [(5, 9), (6, 9), (10, 9), (0, 9), (1, 9), (3, 9), (7, 9), (8, 9), (2, 9), (4, 9)] rfl (rfl : _ = AV.v _) rfl), (lvW [(5, 9), (6, 9), (10, 9), (0, 9), (1, 9), (3, 9), (7, 9), (8, 9), (2, 9), (4, 9)] rfl (rfl : _ = AV.sl _ _) rfl), (lvW [(5, 9), (6, 9), (10, 9), (0, 9), (1, 9), (3, 9), (7, 9), (8, 9), (2, 9), (4, 9)] rfl (rfl : _ = AV.v _) rfl), (lvW [(5, 9), (6, 9), (10, 9), (0, 9), (1, 9), (3, 9), (7, 9), (8, 9), (2, 9), (4, 9)] rfl (rfl : _ = AV.v _) rfl), trivial⟩
              · exact ⟨(obW [(5, 9), (6, 9), (10, 9), (0, 9), (1, 9), (3, 9), (7, 9), (8, 9), (2, 9), (4, 9)] rfl rfl rfl rfl rfl), (obW [(5, 9), (6, 9), (10, 9), (0, 9), (1, 9), (3, 9), (7, 9), (8, 9), (2, 9), (4, 9)] rfl rfl rfl rfl rfl), (obW [(5, 9), (6, 9), (10, 9), (0, 9), (1, 9), (3, 9), (7, 9), (8, 9), (2, 9), (4, 9)] rfl rfl rfl rfl rfl), (obW [(5, 9), (6, 9), (10, 9), (0, 9), (1, 9), (3, 9), (7, 9), (8, 9), (2, 9), (4, 9)] rfl rfl rfl rfl rfl), (by exact obM rfl rfl rfl rfl rfl), (obW [(5, 9), (6, 9), (10, 9), (0, 9), (1, 9), (3, 9), (7, 9), (8, 9), (2, 9), (4, 9)] rfl rfl rfl rfl rfl), (by exact obM rfl rfl rfl rfl rfl), (obB rfl rfl rfl rfl (lv_cons (lvRr rfl (by rfl)) lv_nil)), (by exact obR rfl rfl rfl rfl), (by exact obR rfl rfl rfl rfl), (by exact obR rfl rfl rfl rfl), trivial⟩
              · kernel_rfl) ?_
            refine D_region ?_
            refine DL_c (op_ldB _ inferInstance rfl rfl (rfl : _ = some (AV.fn _ _ _))) ?_
            refine DL_c (op_mv _ (rfl : _ = AV.v (.int _ _))) ?_
            refine DL_c (op_callPV rfl inferInstance [((2, 8), (72, 0)), ((4, 8), (74, 0)), ((9, 8), (79, 0))] ?_ (hih) (insK ⟨rfl, rfl, rfl, rfl, rfl, rfl, rfl, rfl, rfl, rfl, rfl, trivial⟩ rfl rfl) ⟨rfl, rfl, rfl, rfl, rfl, rfl, rfl, rfl, rfl, rfl, rfl, trivial⟩ (by kernel_rfl)) ?_
            · repeat' (first | exact argsR_nil | refine argsR_cons ?_ ?_ | exact Lv.v | exact lvPr rfl)
            refine DL_c (op_not _ rfl rfl) ?_
            refine DL_nil (hK16 _ ?_)
            clear hK16; try clear K16
            refine D_splitC rfl (fun hc42 => ?_) (fun hc42 => ?_)
            · skip
              refine D_seq fun K17 hK17 => ?_
              refine D_region ?_
              refine DL_c (op_as _ (rfl : _ = AV.v (.bool _))) ?_
              refine DL_nil (hK17 _ ?_)
              clear hK17; try clear K17
              refine D_ret ?_
              have hr := hQs hc42
              subst hr
              exact ret1 (.inr rfl) rfl (.tmp (rfl : _ = AV.v (.bool _))) (Le.outI [((2, 8), (72, 0)), ((4, 8), (74, 0)), ((9, 8), (79, 0))] [] (lvB hc42) rfl rfl rfl trivial ⟨⟨rfl, ⟨_, rfl, .box rfl (lv_cons .fp (lv_cons .v (lv_cons .sl (lv_cons (.fn rfl (lv_cons (lvPr rfl) lv_nil) rfl lv_nil) (lv_cons .mp (lv_cons (lvRr rfl rfl) lv_nil))))))⟩, rfl⟩, ⟨rfl, ⟨_, rfl, .mp⟩, rfl⟩, ⟨rfl, ⟨_, rfl, .rowE rfl⟩, rfl⟩, ⟨rfl, ⟨_, rfl, .box rfl (lv_cons .sl (lv_cons (lvRr rfl rfl) lv_nil))⟩, rfl⟩, ⟨rfl, ⟨_, rfl, .rowE rfl⟩, rfl⟩, ⟨rfl, ⟨_, rfl, .box rfl (lv_cons (lvPr rfl) lv_nil)⟩, rfl⟩, ⟨rfl, ⟨_, rfl, .box rfl (lv_cons .mp lv_nil)⟩, rfl⟩, ⟨rfl, ⟨_, rfl, .mp⟩, rfl⟩, ⟨rfl, ⟨_, rfl, .box rfl (lv_cons (lvRr rfl rfl) lv_nil)⟩, rfl⟩, ⟨rfl, ⟨_, rfl, .rowE rfl⟩, rfl⟩, ⟨rfl, ⟨_, rfl, .box rfl (lv_cons (.fn rfl lv_nil rfl (lv_cons (lvPr rfl) (lv_cons (lvPr rfl) (lv_cons (lvPr rfl) (lv_cons (lvPr rfl) lv_nil))))) lv_nil)⟩, rfl⟩, trivial⟩ ⟨rfl, rfl, rfl, rfl, rfl, rfl, rfl, rfl, trivial⟩ rfl)
            · skip
              have hq := hQn hc42
              refine D_skip (hK6 _ ?_)
              clear hK6; try clear K6
              refine D_region ?_
              refine DL_c (op_add _ _ rfl rfl (i64w (by omega))) ?_
              refine DL_c (op_mv _ (rfl : _ = AV.v (.int _ _))) ?_
              refine DL_nil ?_
              refine ⟨i + 1, ?_, ?_, ?_⟩
              · exact ⟨by omega, hq.1⟩
              · skip
                refine Le.mkJ [((2, 9), (72, 0)), ((4, 9), (74, 0)), ((9, 9), (79, 0))] [] rfl ?_ ?_ trivial ⟨rfl, rfl, rfl, rfl, rfl, rfl, rfl, rfl, trivial⟩ ?_
                · exact ⟨(lvPr (id := (5, 9)) rfl), (lvPr (id := (6, 9)) rfl), (lvPr (id := (8, 9)) rfl), (lvPr (id := (10, 9)) rfl), (by repeat' (exact Lv.sl)), (by repeat' (exact Lv.v)), (lvI (by rfl)), trivial⟩
                · exact ⟨(obB rfl rfl rfl rfl (by repeat' (first | exact lvPr (id := (0, 9)) rfl | exact lv_nil | refine lv_cons ?_ ?_))), (obB rfl rfl rfl rfl (by repeat' (first | exact Lv.mp | exact lv_nil | refine lv_cons ?_ ?_))), (obB rfl rfl rfl rfl (by repeat' (first | exact lvPr (id := (5, 9)) rfl | exact lvPr (id := (6, 9)) rfl | exact lvPr (id := (10, 9)) rfl | exact lvPr (id := (8, 9)) rfl | refine Lv.fn rfl ?_ rfl ?_ | exact lv_nil | refine lv_cons ?_ ?_))), (obB rfl rfl rfl rfl (lv_cons (by repeat' (exact Lv.fp)) (lv_cons (lvI (by rfl)) (lv_cons (lvSr (by rfl) (by rfl)) (lv_cons (by repeat' (first | exact lvPr (id := (3, 9)) rfl | refine Lv.fn rfl ?_ rfl ?_ | exact lv_nil | refine lv_cons ?_ ?_)) (lv_cons (by repeat' (exact Lv.mp)) (lv_cons (lvRr rfl (by (rw [hq.2]))) lv_nil))))))), (obM rfl rfl rfl (by (rw [hq.2])) (by (rw [hq.2]))), (obR rfl rfl rfl (by (rw [hq.2]))), (obB rfl rfl rfl rfl (lv_cons (lvSr (by rfl) (by rfl)) (lv_cons (lvRr rfl (by (rw [hq.2]))) lv_nil))), (obR rfl rfl rfl (by (rw [hq.2]))), (obM rfl rfl rfl (by (rw [hq.2])) (by (rw [hq.2]))), (obB rfl rfl rfl rfl (lv_cons (lvRr rfl (by (rw [hq.2]))) lv_nil)), (obR rfl rfl rfl (by (rw [hq.2]))), trivial⟩
                · kernel_rfl
              · omega
    · skip
      obtain rfl : i = L.length := by omega
      have hr := hend ht
      rw [hou] at hr
      subst hr
      refine D_exit ?_
      refine id (hK2 _ ?_)
      clear hK2; try clear K2
      refine D_seq fun K18 hK18 => ?_
      refine D_region ?_
      refine DL_c (op_as _ (rfl : _ = AV.v (.bool _))) ?_
      refine DL_nil (hK18 _ ?_)
      clear hK18; try clear K18
      refine D_ret ?_
      exact ret1 (.inr rfl) rfl (.tmp (rfl : _ = AV.v (.bool _))) (Le.outI [((2, 8), (2, 9)), ((4, 8), (4, 9)), ((9, 8), (9, 9))] [] (lvB (rfl)) rfl rfl rfl trivial ⟨⟨rfl, ⟨_, rfl, .box rfl (lv_cons .fp (lv_cons .v (lv_cons .sl (lv_cons (.fn rfl (lv_cons (lvPr rfl) lv_nil) rfl lv_nil) (lv_cons .mp (lv_cons (lvRr rfl rfl) lv_nil))))))⟩, rfl⟩, ⟨rfl, ⟨_, rfl, .mp⟩, rfl⟩, ⟨rfl, ⟨_, rfl, .rowE rfl⟩, rfl⟩, ⟨rfl, ⟨_, rfl, .box rfl (lv_cons .sl (lv_cons (lvRr rfl rfl) lv_nil))⟩, rfl⟩, ⟨rfl, ⟨_, rfl, .rowE rfl⟩, rfl⟩, ⟨rfl, ⟨_, rfl, .box rfl (lv_cons (lvPr rfl) lv_nil)⟩, rfl⟩, ⟨rfl, ⟨_, rfl, .box rfl (lv_cons .mp lv_nil)⟩, rfl⟩, ⟨rfl, ⟨_, rfl, .mp⟩, rfl⟩, ⟨rfl, ⟨_, rfl, .box rfl (lv_cons (lvRr rfl rfl) lv_nil)⟩, rfl⟩, ⟨rfl, ⟨_, rfl, .rowE rfl⟩, rfl⟩, ⟨rfl, ⟨_, rfl, .box rfl (lv_cons (.fn rfl lv_nil rfl (lv_cons (lvPr rfl) (lv_cons (lvPr rfl) (lv_cons (lvPr rfl) (lv_cons (lvPr rfl) lv_nil))))) lv_nil)⟩, rfl⟩, trivial⟩ ⟨rfl, rfl, rfl, rfl, rfl, rfl, rfl, rfl, trivial⟩ rfl)
end Go.Proofs.Ytkbkmngbenohkaa

namespace Go.Proofs.Ytkbkmngbenohkaa
open Go.RowKit

set_option maxHeartbeats 4000000 in
theorem sus_spec (n : Nat) (P A : List Nat) (hP : P.length = n) (hA : A.length = n) (hn : n ≤ 64) (hwP : ∀ v, P.getD v 0 < 18446744073709551616) (hwA : ∀ v, A.getD v 0 < 18446744073709551616) (hpar : ∀ v p : Nat, p ∈ wat n P (v : Int) → p < n)
  (h : Nat) (sc : List Nat) (st : List Int) (h1 : st.length ≤ 4611686018427387904) (ord : List Nat) (ho : ok1 n ord) (v : Nat) (hv : v < n) :
  Spec Try.prog 112 (inStI [.ptr (0, 9) 0, .v (.int .i64 (v : Int))] (SSL n P A h sc st ord))
   (outStI (.tup [.ref (0, 8) 0 (fil n (vsF (anR n A) n (fun v => wat n P (v : Int)) st v (ord, [])).1.2).length, .v (.bool (vsF (anR n A) n (fun v => wat n P (v : Int)) st v (ord, [])).2)])
    (SSO n P A h sc st (vsF (anR n A) n (fun v => wat n P (v : Int)) st v (ord, [])).1.1 ++ [((0, 8), .row 3 1 (nsl (fil n (vsF (anR n A) n (fun v => wat n P (v : Int)) st v (ord, [])).1.2)))]) [(0, 9), (1, 9), (2, 8), (3, 9), (4, 8), (0, 8)] P3) := by
 have hvi := visit_spec n P A hP hA hn hwP hwA hpar h sc st h1 (n + 1) v ord [] ho ⟨List.nodup_nil, fun v hv => by simp at hv⟩ (by simp)
 obtain ⟨i1, i2, _, _⟩ := vis_ok (cf := fun o => con (anR n A) n o st) (un := unN st) (par := fun v => wat n P (v : Int)) (n := n) (k := n + 1) (v := v) (q := (ord, [])) (fun v _ p hp => hpar v p hp) hv ho ⟨List.nodup_nil, fun v hv => by simp at hv⟩
 obtain ⟨res, hres⟩ : ∃ r, r = vsF (anR n A) n (fun v => wat n P (v : Int)) st v (ord, []) := ⟨_, rfl⟩
 rw [← hres]
 unfold vsF at hres
 rw [← hres] at hvi i1 i2
 obtain ⟨⟨o, u⟩, b⟩ := res
 simp only at hvi i1 i2 ⊢
 have hul := i2.len
 have hfs := fil_srt i2
 have hfl : u.length = (fil n u).length := by
  have := congrArg List.length hfs
  simpa using this
 refine Spec.ofNI Try.func112 rfl Try.ntmps112 rfl ?_
 refine D_seq fun K1 hK1 => ?_
 refine D_region ?_
 refine DL_c (op_box (2, 0) _ rfl rfl) ?_
 refine DL_c (op_as _ (rfl : _ = AV.v (.slice _ _ _))) ?_
 refine DL_c (op_as _ (rfl : _ = AV.v (.bool _))) ?_
 refine DL_nil (hK1 _ ?_)
 clear hK1; try clear K1
 refine D_seq fun K2 hK2 => ?_
 refine D_region ?_
 refine DL_c (op_mkM (10, 0) rfl) ?_
 refine DL_c (op_alloc (6, 0) inferInstance rfl rfl) ?_
 refine DL_c (op_stB _ _ inferInstance rfl rfl rfl rfl (Nat.le_of_ble_eq_true rfl) rfl) ?_
 refine DL_nil (hK2 _ ?_)
 clear hK2; try clear K2
 refine D_seq fun K3 hK3 => ?_
 refine D_region ?_
 refine DL_c (op_alloc (7, 0) inferInstance rfl rfl) ?_
 refine DL_nil (hK3 _ ?_)
 clear hK3; try clear K3
 refine D_seq fun K4 hK4 => ?_
 refine D_region ?_
 refine DL_c (op_alloc (8, 0) inferInstance rfl rfl) ?_
 refine DL_nil (hK4 _ ?_)
 clear hK4; try clear K4
 refine D_seq fun K5 hK5 => ?_
 refine D_region ?_
 refine DL_c (op_mf _ _ (rfl : _ = []) (rfl : _ = [_, _, _, _])) ?_
 refine DL_c (op_stB _ _ inferInstance rfl rfl rfl rfl (Nat.le_of_ble_eq_true rfl) rfl) ?_
 refine DL_nil (hK5 _ ?_)
 clear hK5; try clear K5
 refine D_seq fun K6 hK6 => ?_
 refine D_le (Le.nilB (7, 0) 0 (90, 0) 3 1 rfl rfl rfl) ?_
 refine D_region ?_
 refine DL_c (op_ldB _ inferInstance rfl rfl (rfl : _ = some (AV.fn _ _ _))) ?_
 refine DL_c (op_mv _ (rfl : _ = AV.v (.int _ _))) ?_
 refine DL_c (op_callPV rfl inferInstance [((5, 9), (2, 0)), ((6, 9), (6, 0)), ((7, 9), (10, 0)), ((8, 9), (7, 0)), ((9, 9), (90, 0)), ((10, 9), (8, 0)), ((2, 8), (72, 0)), ((4, 8), (74, 0)), ((9, 8), (79, 0))] ?_ (hvi) ⟨⟨rfl, ⟨_, rfl, .box rfl (lv_cons .fp (lv_cons .v (lv_cons .sl (lv_cons (.fn rfl (lv_cons (lvPr rfl) lv_nil) rfl lv_nil) (lv_cons .mp (lv_cons (lvRr rfl rfl) lv_nil))))))⟩, rfl⟩, ⟨rfl, ⟨_, rfl, .mp⟩, rfl⟩, ⟨rfl, ⟨_, rfl, .rowE rfl⟩, rfl⟩, ⟨rfl, ⟨_, rfl, .box rfl (lv_cons .sl (lv_cons (lvRr rfl rfl) lv_nil))⟩, rfl⟩, ⟨rfl, ⟨_, rfl, .rowE rfl⟩, rfl⟩, ⟨rfl, ⟨_, rfl, .box rfl (lv_cons (lvPr rfl) lv_nil)⟩, rfl⟩, ⟨rfl, ⟨_, rfl, .box rfl (lv_cons (.mp) lv_nil)⟩, rfl⟩, ⟨rfl, ⟨_, rfl, .mp⟩, rfl⟩, ⟨rfl, ⟨_, rfl, .box rfl (lv_cons (lvRr rfl rfl) lv_nil)⟩, rfl⟩, ⟨rfl, ⟨_, rfl, .rowE rfl⟩, rfl⟩, ⟨rfl, ⟨_, rfl, .box rfl (lv_cons (.fn rfl lv_nil rfl (lv_cons (lvPr rfl) (lv_cons (lvPr rfl) (lv_cons (lvPr rfl) (lv_cons (lvPr rfl) lv_nil))))) lv_nil)⟩, rfl⟩, trivial⟩ ⟨rfl, rfl, rfl, rfl, rfl, rfl, rfl, rfl, rfl, rfl, rfl, trivial⟩ (by kernel_rfl)) ?_
 ·repeat' (first | exact argsR_nil | refine argsR_cons ?_ ?_ | exact Lv.v | exact lvPr rfl)
 refine DL_c (op_as _ (rfl : _ = AV.v (.bool _))) ?_
 refine DL_nil (hK6 _ ?_)
 clear hK6; try clear K6
 refine D_seq fun K7 hK7 => ?_
 refine D_region ?_
 refine DL_c (op_ldB _ inferInstance rfl rfl (rfl : _ = some (AV.ref _ _ _))) ?_
 refine DL_c (op_callP inferInstance [((0, 9), (79, 0))] ?_ (sortG_spec u.length (by omega) (u.map fun (v : Nat) => (v : Int)) (by simp)) ⟨⟨rfl, ⟨_, rfl, .rowE rfl⟩, rfl⟩, trivial⟩ ⟨rfl, trivial⟩ (by kernel_rfl)) ?_
 ·repeat' (first | exact argsR_nil | refine argsR_cons ?_ ?_ | exact lvRr rfl rfl)
 refine DL_nil (hK7 _ ?_)
 clear hK7; try clear K7
 refine D_seq fun K8 hK8 => ?_
 refine D_region ?_
 refine DL_c (op_ldB _ inferInstance rfl rfl (rfl : _ = some (AV.ref _ _ _))) ?_
 refine DL_c (op_mv _ (rfl : _ = AV.v (.bool _))) ?_
 refine DL_c (op_as _ (rfl : _ = AV.ref _ _ _)) ?_
 refine DL_c (op_as _ (rfl : _ = AV.v (.bool _))) ?_
 refine DL_nil (hK8 _ ?_)
 clear hK8; try clear K8
 refine D_ret ?_
 exact ret2 (.inr rfl) rfl (.tmp (rfl : _ = AV.ref _ _ _)) (.tmp (rfl : _ = AV.v (.bool _))) (Le.outI [((2, 8), (72, 0)), ((4, 8), (74, 0)), ((0, 8), (79, 0))] [] (.tup rfl (lv_cons (lvRr rfl hfl.symm) (lv_cons (lvB rfl) lv_nil))) rfl rfl rfl trivial ⟨⟨rfl, ⟨_, rfl, .box rfl (lv_cons .fp (lv_cons .v (lv_cons .sl (lv_cons (.fn rfl (lv_cons (lvPr rfl) lv_nil) rfl lv_nil) (lv_cons .mp (lv_cons (lvRr rfl rfl) lv_nil))))))⟩, rfl⟩, ⟨rfl, ⟨_, rfl, .mp⟩, rfl⟩, ⟨rfl, ⟨_, rfl, .rowE rfl⟩, rfl⟩, ⟨rfl, ⟨_, rfl, .box rfl (lv_cons .sl (lv_cons (lvRr rfl rfl) lv_nil))⟩, rfl⟩, ⟨rfl, ⟨_, rfl, .rowE rfl⟩, rfl⟩, ⟨rfl, ⟨_, rfl, .rowE hfs⟩, rfl⟩, trivial⟩ ⟨rfl, rfl, rfl, trivial⟩ rfl)
end Go.Proofs.Ytkbkmngbenohkaa
