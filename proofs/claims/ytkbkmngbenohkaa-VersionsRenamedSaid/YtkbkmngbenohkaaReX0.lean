/- What the laws on versions have in common. -/
import Derived.Test.YtkbkmngbenohkaaReW8
import Derived.Test.YtkbkmngbenohkaaReV6
set_option linter.unusedSimpArgs false
set_option linter.unusedVariables false
namespace Go.Proofs.Ytkbkmngbenohkaa
open Go.RowKit

/-- The graph of a list of parents, as New makes it. -/
theorem newN_spec {n : Nat} {Ps : List (List Int)} (h : Near Ps) (hn : Ps.length = n) :
    Spec Try.prog 58 (inSt [.sl n (nrows Ps)] []) (outSt (.tup [.fp 0 (gra n (parW Ps) (ancW n (edg Ps n 0))), .v (.int .i64 0)]) []) := by
  subst hn
  have h14 := h.n
  have hN := vnew_spec Ps.length Ps rfl (by omega) (fun v => by have := h.rows v; omega) fun hV _ a _ => by
    rw [nxt_edg a Ps.length fun v hv => (hV v hv).1, List.length_map]
    exact Nat.le_trans (filter_few (a := a) (m := 4) _ fun v hp => by
      rw [decide_eq_true_eq] at hp
      by_cases hv : v < Ps.length
      · have := (h.r v hv).1.b _ hp; omega
      · rw [List.getD_eq_getElem?_getD, List.getElem?_eq_none (by omega)] at hp; cases hp) (by decide)
  rw [newV_ok (by omega) h.valid h.acyc] at hN
  exact hN
theorem minN_spec {n : Nat} {Ps : List (List Int)} (hG : GG n Ps) (st : List Int) (hst : st.length = n) (v : Nat) :
    Spec Try.prog 59 (inSt [.fp 0 (gra n (parW Ps) (ancW n (edg Ps n 0))), .v (.int .i64 (v : Int)), .sl n (isl st)] []) (outSt (.sl (minL n (edg Ps n 0) st (upE Ps v)).length (blR (minL n (edg Ps n 0) st (upE Ps v)))) []) := by
  obtain ⟨hPs, hn, hV, _, _⟩ := hG
  subst hPs
  exact minimal_spec _ _ _ (parW_pw hV hn) st hst v
theorem minL_len2 (n : Nat) (E : Prs) (st : List Int) (l : List Nat) (i : Nat) : ((minL n E st l).getD i (0, [])).2.length ≤ 1000 := by
  by_cases h : i < (minL n E st l).length
  · rw [(minL_mem (getD_mem' (0, []) h)).2.2]
    have := els_len (susW n E (whr st 2).testBit ((minL n E st l).getD i (0, [])).1)
    omega
  · rw [List.getD_eq_getElem?_getD, List.getElem?_eq_none (by omega)]; exact Nat.zero_le _
end Go.Proofs.Ytkbkmngbenohkaa
