/- What the laws on versions have in common. -/
import Derived.Test.YtkbkmngbenohkaaOrW8
import Derived.Test.YtkbkmngbenohkaaOrV6
set_option linter.unusedSimpArgs false
set_option linter.unusedVariables false
namespace Go.Proofs.Ytkbkmngbenohkaa
open Go.RowKit

theorem ancsN_spec {n : Nat} {Ps : List (List Int)} (hPs : Ps.length = n) (hn : n ≤ 64) (P : List Nat) (v : Nat) :
    Spec Try.prog 60 (inSt [.fp 0 (gra n P (ancW n (edg Ps n 0))), .v (.int .i64 (v : Int))] []) (outSt (.sl (upE Ps v).length (nsl (upE Ps v))) []) := by
  subst hPs
  exact ancestors_spec _ P _ (ancW_len _ _) hn (ancW_lt hn _) v
theorem hasNN_spec (n : Nat) (l : List Nat) (x : Nat) (hn : l.length = n) (h1 : n ≤ 1000000) :
    Spec Try.prog 42 (inSt [.sl n (nsl l), .v (.int .i64 (x : Int))] []) (outSt (.v (.bool (decide (x ∈ l)))) []) := by
  have h := has_spec n (l.map fun (x : Nat) => (x : Int)) (x : Int) (by simp [hn]) (by omega)
  have e : decide ((x : Int) ∈ l.map fun (x : Nat) => (x : Int)) = decide (x ∈ l) := by
    rw [Bool.eq_iff_iff, decide_eq_true_eq, decide_eq_true_eq, List.mem_map]
    constructor
    · rintro ⟨y, h1, h2⟩
      have : y = x := by omega
      exact this ▸ h1
    · exact fun h => ⟨x, h, rfl⟩
  rw [e] at h
  exact h
end Go.Proofs.Ytkbkmngbenohkaa
