/- The reference's Status, minimal, Suspects, Minimal, Inherited by the machine. -/
import Derived.Test.YtkbkmngbenohkaaBuV5
set_option linter.unusedSimpArgs false
set_option linter.unusedVariables false
namespace Go.Proofs.Ytkbkmngbenohkaa
open Go.RowKit

structure GG (n : Nat) (Ps : List (List Int)) : Prop where
  len : Ps.length = n
  n64 : n ≤ 64
  V : Valid Ps
  m : ∀ v, (Ps.getD v []).length ≤ 64
  ac : ¬ ∃ a, a < n ∧ Clo (edg Ps n 0) a a
theorem upE_len (Ps : List (List Int)) (v : Nat) : (upE Ps v).length ≤ 64 := wat_len _ _
theorem rancN_spec (n : Nat) (Ps : List (List Int)) (h : GG n Ps) (v : Nat) :
    Spec Try.prog 66 (inSt [.sl n (nrows Ps), .v (.int .i64 (v : Int))] []) (outSt (.sl (upE Ps v).length (nsl (upE Ps v))) []) := by
  have h1 := rancestors_spec n Ps h.len (by have := h.n64; omega) h.V (fun v => by have := h.m v; omega) v
  have h2 : rat Ps (v : Int) = (upE Ps v).map fun (x : Nat) => (x : Int) := rat_els h.V (by rw [h.len]; exact h.n64) v
  rw [h2, List.length_map] at h1
  exact h1
end Go.Proofs.Ytkbkmngbenohkaa
