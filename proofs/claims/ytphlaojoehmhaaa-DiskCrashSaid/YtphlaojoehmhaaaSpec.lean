/- Disks as data: cells, pending writes; what the operations do to them. Plain lemmas; no program text. -/
import Derived.Test.YtphlaojoehmhaaaLib
namespace Go.Proofs.Ytphlaojoehmhaaa

def flat (ps : List (Int × Int)) : List Value := ps.flatMap fun p => [Value.int .i64 p.1, Value.int .i64 p.2]
theorem length_flat (ps : List (Int × Int)) : (flat ps).length = ps.length * 2 := by
  induction ps with
  | nil => rfl
  | cons p ps ih => simp only [flat, List.flatMap_cons, List.length_append, List.length_cons, List.length_nil] at *; omega
theorem flat_one (ps : List (Int × Int)) : ∀ u ∈ flat ps, u.oneCell' = true := by
  intro u hu
  simp only [flat, List.mem_flatMap] at hu
  obtain ⟨p, _, hu⟩ := hu
  simp at hu
  rcases hu with rfl | rfl <;> rfl
theorem flat_append (ps qs : List (Int × Int)) : flat ps ++ flat qs = flat (ps ++ qs) := by simp [flat]
theorem flat_drop (ps : List (Int × Int)) : ∀ k, (flat ps).drop (k * 2) = flat (ps.drop k) := by
  induction ps with
  | nil => intro k; simp [flat]
  | cons p ps ih =>
    intro k
    cases k with
    | zero => simp
    | succ k =>
      have : flat (p :: ps) = [Value.int .i64 p.1, Value.int .i64 p.2] ++ flat ps := rfl
      rw [this, show (k + 1) * 2 = 2 + k * 2 by omega, ← List.drop_drop]
      simpa using ih k
theorem flat_take (ps : List (Int × Int)) : ∀ k, (flat ps).take (k * 2) = flat (ps.take k) := by
  induction ps with
  | nil => intro k; simp [flat]
  | cons p ps ih =>
    intro k
    cases k with
    | zero => simp [flat]
    | succ k =>
      have : flat (p :: ps) = Value.int .i64 p.1 :: Value.int .i64 p.2 :: flat ps := rfl
      rw [this, show (k + 1) * 2 = k * 2 + 1 + 1 by omega, List.take_succ_cons, List.take_succ_cons, ih k]
      rfl
theorem flat_at (ps : List (Int × Int)) (k : Nat) (h : k < ps.length) : ((flat ps).drop (k * 2)).take 2 = [Value.int .i64 ps[k].1, Value.int .i64 ps[k].2] := by
  rw [flat_drop, List.drop_eq_getElem_cons h]; rfl
theorem flat_at0 (ps : List (Int × Int)) (k : Nat) (h : k < ps.length) : (flat ps)[k * 2 + 0]? = some (Value.int .i64 ps[k].1) := by
  have := congrArg (fun l => l[0]?) (flat_at ps k h)
  simpa [List.getElem?_take, List.getElem?_drop] using this
theorem flat_at1 (ps : List (Int × Int)) (k : Nat) (h : k < ps.length) : (flat ps)[k * 2 + 1]? = some (Value.int .i64 ps[k].2) := by
  have := congrArg (fun l => l[1]?) (flat_at ps k h)
  simpa [List.getElem?_take, List.getElem?_drop] using this

/-- One write; several. -/
def wr (cs : List Int) (p : Int × Int) : List Int := cs.set p.1.toNat p.2
def app (cs : List Int) (ps : List (Int × Int)) : List Int := ps.foldl wr cs
theorem length_wr (cs : List Int) (p : Int × Int) : (wr cs p).length = cs.length := by simp [wr]
theorem length_app (cs : List Int) (ps : List (Int × Int)) : (app cs ps).length = cs.length := by
  induction ps generalizing cs with
  | nil => rfl
  | cons p ps ih => simp only [app, List.foldl_cons] at *; rw [ih, length_wr]
theorem app_take_succ (cs : List Int) (ps : List (Int × Int)) (k : Nat) (h : k < ps.length) : app cs (ps.take (k + 1)) = wr (app cs (ps.take k)) ps[k] := by
  rw [take_succ ps k h]; simp only [app, List.foldl_append, List.foldl_cons, List.foldl_nil]

/-- The writes name cells. -/
def Ok (n : Nat) (ps : List (Int × Int)) : Prop := ∀ p ∈ ps, 0 ≤ p.1 ∧ p.1 < (n : Int)
theorem Ok.at {n : Nat} {ps : List (Int × Int)} (h : Ok n ps) (k : Nat) (hk : k < ps.length) : 0 ≤ ps[k].1 ∧ ps[k].1 < (n : Int) := h _ (List.getElem_mem hk)

def bools (bs : List Bool) : List Value := bs.map Value.bool
theorem length_bools (bs : List Bool) : (bools bs).length = bs.length := by simp [bools]
theorem bools_get (bs : List Bool) (k : Nat) (h : k < bs.length) : (bools bs)[k]? = some (.bool bs[k]) := by simp [bools, h]
theorem bools_len {w : World} {v : Value} {n : Nat} {bs : List Bool} (h : Sl w 1 v n (bools bs)) : bs.length = n := by have := h.len; rw [length_bools] at this; omega

/-- The writes that a crash keeps. -/
def kept : List (Int × Int) → List Bool → List (Int × Int)
  | [], _ => []
  | _ :: _, [] => []
  | p :: ps, b :: bs => if b then p :: kept ps bs else kept ps bs
theorem kept_nil (ps : List (Int × Int)) : kept ps [] = [] := by cases ps <;> rfl
theorem kept_take_succ : ∀ (ps : List (Int × Int)) (bs : List Bool) (k : Nat) (h : k < ps.length), kept (ps.take (k + 1)) bs = kept (ps.take k) bs ++ (if bs[k]? = some true then [ps[k]] else [])
  | [], _, _, h => by simp at h
  | p :: ps, [], k, h => by simp [kept_nil]
  | p :: ps, b :: bs, 0, h => by cases b <;> simp [kept]
  | p :: ps, b :: bs, k + 1, h => by
    have ih := kept_take_succ ps bs k (by simpa using h)
    simp only [List.take_succ_cons, kept, List.getElem?_cons_succ, List.getElem_cons_succ]
    cases b <;> simp [ih]
theorem kept_sub (ps : List (Int × Int)) (bs : List Bool) : ∀ p ∈ kept ps bs, p ∈ ps := by
  induction ps generalizing bs with
  | nil => simp [kept]
  | cons q ps ih =>
    cases bs with
    | nil => simp [kept]
    | cons b bs =>
      intro p hp
      simp only [kept] at hp
      split at hp
      · rcases List.mem_cons.1 hp with rfl | hp
        · exact List.mem_cons_self
        · exact List.mem_cons_of_mem _ (ih _ p hp)
      · exact List.mem_cons_of_mem _ (ih _ p hp)
theorem app_snoc (cs : List Int) (ps : List (Int × Int)) (q : Int × Int) : app cs (ps ++ [q]) = app (app cs ps) [q] := by simp [app]
/-- Another number of cells. -/
def fit (cs : List Int) (k : Nat) : List Int := cs.take k ++ List.replicate (k - cs.length) 0
theorem length_fit (cs : List Int) (k : Nat) : (fit cs k).length = k := by simp [fit]; omega
end Go.Proofs.Ytphlaojoehmhaaa
