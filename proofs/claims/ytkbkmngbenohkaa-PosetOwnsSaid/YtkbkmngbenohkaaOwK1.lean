/- slices.Backward over ints: the order in which its loop's rounds come. -/
import Derived.Test.YtkbkmngbenohkaaOwM6
import Derived.Test.YtkbkmngbenohkaaOwFacts
import Derived.RangeFuncBox
import Derived.RangeFuncLeaves
import Derived.WalkKit
import Derived.OwnWalkIn
import Derived.TacticsInMore
import Derived.LoopNIn
import Derived.LoopIn
set_option linter.unusedSimpArgs false
set_option linter.unusedVariables false
namespace Go.Proofs.Ytkbkmngbenohkaa
open Go.RowKit

attribute [local go_sem] Oper.semAt_some

set_option maxRecDepth 100000 in
set_option maxHeartbeats 2000000 in
theorem back1_in {α : Type} (F : Fence) (n : Nat) (hF : F.fn 119) (hro : F.round = none) (hn : 1 ≤ n) (l Bs Bo b off len cap : Nat) (xs : List Int) (hreach : len * 8 ≤ 140737488351232) (encs : α → Array Value) (zs : List α) (hz : zs.length = len) (henc : ∀ (k : Nat) (x : α), zs[k]? = some x → encs x = #[.int .i64 ((len : Int) - 1 - k), .int .i64 ((xs[len - 1 - k]?).getD 0)])
    (S : Nat → Prop) (hSB : S Bs) (hSb : S b) (J Jx : List α → World → Prop)
    (hY : ∀ pre x W, J pre W → pre.length < len → YieldAt F (n - 1) Try.prog l (encs x) W fun e W' =>
      (e = .returned (.bool true) ∧ J (pre ++ [x]) W' ∧ ∀ g, S g → W'.heap[g]? = W.heap[g]?) ∨ (e = .returned (.bool false) ∧ Jx (pre ++ [x]) W'))
    (W : World) (hBs : W.cell? ⟨Bs, Bo, none⟩ = some (.slice (some ⟨b, off, none⟩) len cap)) (hc : ∀ j, j < len → W.cell? ⟨b, off + j, none⟩ = some (.int .i64 ((xs[j]?).getD 0))) (h0 : J [] W) :
    CallsIn F n Try.prog 119 #[.func (.yield l) #[] #[], .pointer (some ⟨Bs, Bo, none⟩)] W fun e W' => (∃ v, e = .returned v) ∧ (J zs W' ∨ ∃ pre, Jx pre W') := by
  refine callsIn_of_wp Try.func119 rfl hF ?_ hro
  simp only [Try.ntmps119, List.size_toArray, List.length_cons, List.length_nil, Nat.reduceAdd, Nat.reduceSub, Array.replicate_succ, Array.replicate_zero, List.push_toArray, List.append_toArray, List.nil_append, List.cons_append]
  gi_wp2
  gi_loopw [3] (fun i wr => ∃ k : Nat, k ≤ len ∧ i = .int .i64 ((len : Int) - 1 - k) ∧ J (zs.take k) wr ∧ ∀ g, S g → wr.heap[g]? = W.heap[g]?)
    (fun i _ => (intOf i + 1).toNat)
  case atStart => exact ⟨0, Nat.zero_le _, by simp, by simpa using h0, fun _ _ => rfl⟩
  case round =>
    obtain ⟨k, hk, rfl, hJs, hnx⟩ := hrel
    have hBx : wr.cell? ⟨Bs, Bo, none⟩ = some (.slice (some ⟨b, off, none⟩) len cap) := (World.cell?_of_block (hnx _ hSB)).trans hBs
    have hcx : ∀ j, j < len → wr.cell? ⟨b, off + j, none⟩ = some (.int .i64 ((xs[j]?).getD 0)) := fun j h => (World.cell?_of_block (hnx _ hSb)).trans (hc j h)
    by_cases hlt : k < len
    · have hlz : k < zs.length := by omega
      obtain ⟨fn, tmps, assign, body, hy, hR⟩ := hY (zs.take k) zs[k] wr hJs (by rw [List.length_take]; omega)
      rw [henc k _ (List.getElem?_eq_getElem hlz)] at hy
      obtain ⟨q, hq⟩ : ∃ q : Nat, q = len - 1 - k := ⟨_, rfl⟩
      have hqi : (len : Int) - 1 - k = (q : Int) := by omega
      have hql : q < len := by omega
      rw [hqi, ← hq] at hy
      rw [hqi]
      have hcx' := hcx q hql
      have hnext : zs.take k ++ [zs[k]] = zs.take (k + 1) := by rw [List.take_add_one, List.getElem?_eq_getElem hlz]; rfl
      have hkq : k + q + 1 = len := by omega
      clear hq hqi henc
      gi_wp2
      refine hR.mono ?_
      rintro e W3 (⟨rfl, hJ3, hk3⟩ | ⟨rfl, hJx3⟩)
      · gi_wp2
        go_roundw
        case rel => exact ⟨k + 1, by omega, by congr 1; omega, by rw [← hnext]; exact hJ3, fun g hg => (hk3 g hg).trans (hnx g hg)⟩
        case measure => simp [intOf]
      · gi_wp2
        refine bodyPost_ret (results_none rfl _ _ _) rfl ?_
        exact ⟨⟨_, rfl⟩, .inr ⟨_, hJx3⟩⟩
    · obtain rfl : k = len := by omega
      gi_wp2
      go_end0
      exact ⟨⟨_, rfl⟩, .inl (by rw [← hz, List.take_length] at hJs; exact hJs)⟩

set_option maxRecDepth 100000 in
set_option maxHeartbeats 2000000 in
theorem back1_nil {α : Type} (F : Fence) (n : Nat) (hF : F.fn 119) (hro : F.round = none) (l Bs Bo cap : Nat) (ao : Option Addr) (J : List α → World → Prop) (W : World) (hBs : W.cell? ⟨Bs, Bo, none⟩ = some (.slice ao 0 cap)) (h0 : J [] W) :
    CallsIn F n Try.prog 119 #[.func (.yield l) #[] #[], .pointer (some ⟨Bs, Bo, none⟩)] W fun e W' => (∃ v, e = .returned v) ∧ J [] W' := by
  refine callsIn_of_wp Try.func119 rfl hF ?_ hro
  simp only [Try.ntmps119, List.size_toArray, List.length_cons, List.length_nil, Nat.reduceAdd, Nat.reduceSub, Array.replicate_succ, Array.replicate_zero, List.push_toArray, List.append_toArray, List.nil_append, List.cons_append]
  gi_wp2
  gi_loopw [3] (fun i wr => i = .int .i64 (-1) ∧ J [] wr) (fun _ _ => 0)
  case atStart => exact ⟨rfl, h0⟩
  case round =>
    obtain ⟨rfl, hJs⟩ := hrel
    gi_wp2
    go_end0
    exact ⟨⟨_, rfl⟩, hJs⟩
/-- What slices.Backward gives hands on the elements from the last to the first. -/
theorem back_seq {α : Type} (xs : List Int) (hreach : xs.length * 8 ≤ 140737488351232) (encs : α → Array Value) (zs : List α) (hz : zs.length = xs.length) (henc : ∀ (k : Nat) (x : α), zs[k]? = some x → encs x = #[.int .i64 ((xs.length : Int) - 1 - k), .int .i64 ((xs[xs.length - 1 - k]?).getD 0)]) :
    SeqOk Try.prog 119 (.ptr 0 [.sl xs.length (isl xs)]) encs zs := by
  intro S lb w hSl hlb hcap l J Jx W hW _ _ hY h0
  obtain ⟨v, rfl⟩ : ∃ v, lb = #[v] := by
    obtain ⟨ls⟩ := lb
    cases ls with
    | nil => simp at hlb
    | cons v t =>
      cases t with
      | nil => exact ⟨v, rfl⟩
      | cons u t => simp at hlb
  replace hcap : Rd S w (.ptr 0 [.sl xs.length (isl xs)]) v := hcap
  have hkeep : ∀ g, S g → W.heap[g]? = w.heap[g]? := fun g hg => hW.block g (hSl g hg)
  cases hcap with
  | ptr us hS h2 h3 =>
    rename_i Bs Bo
    have hc0 := h2 0 _ rfl
    have hr0 := h3 0 _ rfl
    generalize us 0 = sv at hc0 hr0
    have hcW : W.cell? ⟨Bs, Bo + 0, none⟩ = some sv := (World.cell?_of_block (hkeep _ hS.1)).trans hc0
    generalize hys : isl xs = ys at hr0
    generalize hnn : xs.length = nn at hr0
    cases hr0 with
    | sl0 a1 a2 a3 =>
      rename_i c ao
      have hx0 : xs = [] := by
        cases xs with
        | nil => rfl
        | cons x xs => simp [isl] at hys
      subst hx0
      obtain rfl : nn = 0 := by simpa using hnn.symm
      have hz0 : zs = [] := List.eq_nil_of_length_eq_zero (by simpa using hz)
      subst hz0
      exact (back1_nil (WF none) 1 trivial rfl l Bs (Bo + 0) c ao J W hcW h0).mono fun e W' ⟨he, hj⟩ => ⟨he, .inl ⟨_, rfl, hj⟩⟩
    | sl vs a1 a2 a3 a4 a5 =>
      rename_i cc b off
      subst hnn; subst hys
      refine (back1_in (WF none) 1 trivial rfl (Nat.le_refl _) l Bs (Bo + 0) b off xs.length _ xs hreach encs zs hz henc S hS.1 a3.1 J Jx (fun pre x W1 hj hl => hY pre x W1 hj (by omega)) W hcW (fun j hj => ?_) h0).mono fun e W' ⟨he, hj⟩ => ⟨he, ?_⟩
      · have e1 : (isl xs)[j]? = some (.v (.int .i64 ((xs[j]?).getD 0))) := by simp [isl, hj]
        have e2 := a5 j _ e1
        generalize hv : vs j = u at e2
        cases e2
        rw [← hv]
        exact (World.cell?_of_block (hkeep _ a3.1)).trans (a4 j _ e1)
      · rcases hj with h | ⟨pre, h⟩
        · exact .inl ⟨_, rfl, h⟩
        · exact .inr ⟨_, trivial, h⟩
end Go.Proofs.Ytkbkmngbenohkaa
