/- The law VersionsMinimal by the machine. -/
import Derived.Test.YtkbkmngbenohkaaOrW9
set_option linter.unusedSimpArgs false
set_option linter.unusedVariables false
namespace Go.Proofs.Ytkbkmngbenohkaa
open Go.RowKit

theorem newGG_spec {n : Nat} {Ps : List (List Int)} (hG : GG n Ps) (hS : ∀ a, a < n → (nxt (edg Ps n 0) a).length ≤ 12) :
    Spec Try.prog 58 (inSt [.sl n (nrows Ps)] []) (outSt (.tup [.fp 0 (gra n (parW Ps) (ancW n (edg Ps n 0))), .v (.int .i64 0)]) []) := by
  have h1 := vnew_spec n Ps hG.len (by have := hG.n64; omega) (fun v => by have := hG.m v; omega) fun _ _ => hS
  have h2 := newV_ok (Ps := Ps) (by rw [hG.len]; have := hG.n64; omega) hG.V (by rw [hG.len]; exact hG.ac)
  rw [h2, hG.len] at h1
  exact h1
theorem ren_spec {n : Nat} {Ps : List (List Int)} (hN : Near Ps) (hPs : Ps.length = n) (m : Nat) (l : List Int) (hl : l.length = m) (h1 : m ≤ 4611686018427387904) (hr : Rng l) :
    Spec Try.prog 69 (inSt [.sl n (nrows Ps), .sl m (isl l)] []) (outSt (.tup [.sl n (nrows (ren32 Ps (toP l n))), .sl n (nsl (toP l n))]) []) :=
  renamed_spec n Ps hPs (by have := hN.n; omega) hN.valid (fun v => by have := hN.rows v; omega) m l hl h1 hr
end Go.Proofs.Ytkbkmngbenohkaa
