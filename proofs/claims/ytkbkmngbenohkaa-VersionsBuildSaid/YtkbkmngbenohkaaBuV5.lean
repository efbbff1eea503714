/- The reference's blames are the words'. Plain Lean; no program. -/
import Derived.Test.YtkbkmngbenohkaaBuW7
set_option linter.unusedSimpArgs false
set_option linter.unusedVariables false
namespace Go.Proofs.Ytkbkmngbenohkaa
open Go.RowKit

/-- Statuses from numbers. -/
def stv (l : List Int) (v : Nat) : Int := [0, 0, 2, 1, 0, 2].getD (pk l v 6).toNat 0
def st0 (n : Nat) (l : List Int) : List Int := (List.range n).map (stv l)
@[simp] theorem st0_len (n : Nat) (l : List Int) : (st0 n l).length = n := by simp [st0]
def inh1 (o : List Int) (v : Nat) (a : List Nat) : List Int := a.foldl (fun o u => if o.getD u 0 = 1 ∧ o.getD v 0 = 0 then o.set v 1 else o) o
@[simp] theorem inh1_len (v : Nat) : ∀ (a : List Nat) (o : List Int), (inh1 o v a).length = o.length
  | [], _ => rfl
  | u :: a, o => by
    have e : inh1 o v (u :: a) = inh1 (if o.getD u 0 = 1 ∧ o.getD v 0 = 0 then o.set v 1 else o) v a := rfl
    rw [e, inh1_len v a]
    split <;> simp
/-- The versions above one, in increasing order. -/
noncomputable def upE (Ps : List (List Int)) (v : Nat) : List Nat := wat Ps.length (ancW Ps.length (edg Ps Ps.length 0)) (v : Int)
noncomputable def stK (Ps : List (List Int)) (l : List Int) (b : Bool) (k : Nat) : List Int := if b = true then (List.range k).foldl (fun o v => inh1 o v (upE Ps v)) (st0 Ps.length l) else st0 Ps.length l
theorem stK_zero (Ps : List (List Int)) (l : List Int) (b : Bool) : stK Ps l b 0 = st0 Ps.length l := by unfold stK; split <;> rfl
theorem stK_succ (Ps : List (List Int)) (l : List Int) (k : Nat) : stK Ps l true (k + 1) = inh1 (stK Ps l true k) k (upE Ps k) := by simp [stK, List.range_succ, List.foldl_append]
theorem stK_false (Ps : List (List Int)) (l : List Int) (k j : Nat) : stK Ps l false k = stK Ps l false j := rfl
@[simp] theorem stK_len (Ps : List (List Int)) (l : List Int) (b : Bool) : ∀ k, (stK Ps l b k).length = Ps.length
  | 0 => by rw [stK_zero]; simp
  | k + 1 => by
    cases b with
    | false => rw [stK_false Ps l (k + 1) k]; exact stK_len Ps l false k
    | true => rw [stK_succ, inh1_len]; exact stK_len Ps l true k
noncomputable def status32 (Ps : List (List Int)) (l : List Int) (b : Bool) : List Int := stK Ps l b Ps.length
@[simp] theorem status32_len (Ps : List (List Int)) (l : List Int) (b : Bool) : (status32 Ps l b).length = Ps.length := stK_len _ _ _ _
/-- The untestable parents alone. -/
def unt (st : List Int) (p : Int) : Bool := decide (st.getD p.toNat 0 = 2)
def Pst (Ps : List (List Int)) (st : List Int) : List (List Int) := Ps.map fun r => r.filter (unt st)
@[simp] theorem Pst_len (Ps : List (List Int)) (st : List Int) : (Pst Ps st).length = Ps.length := by simp [Pst]
end Go.Proofs.Ytkbkmngbenohkaa
