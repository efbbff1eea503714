/- The machine's library, part 9. No program text. -/
import Derived.Test.YtkbkmngbenohkaaGrM8
import Derived.Lib.SliceRun
set_option linter.unusedSimpArgs false
set_option linter.unusedVariables false
namespace Go.Proofs.Ytkbkmngbenohkaa
open Go.RowKit

theorem op_clr {P : Program} {σ : St} {z0 : Value} {T e : TypeId} {bytes : Nat} {dd : Option Tmp} {ty : TypeId} (x : Operand) (E : Elem P T e 1 bytes [z0]) {id : Oid} {off n : Nat} {xs : List PV} (hx : σ.eval x = .ref id off n) (hid : σ.ob id = .obj (.row e 1 xs)) (hn : 0 < n) (hfit : off + n ≤ xs.length)
    {ys : List PV} (hy : putL xs off (List.replicate n (.v z0)) = ys) : Stp P dd (.call { callee := .builtin .clear, args := #[x], argTypes := #[T] }) ty σ ((σ.setOb id (.obj (.row e 1 ys))).put dd .dead) := by
  intro o hd ho ht
  subst hd; subst hy
  intro K ι S a w R
  obtain ⟨B, h1, hsz, ⟨c, h3, h4, h5⟩, hrow⟩ := R.refB hid hx
  have hz1 : z0.oneCell' = true := E.one z0 (by simp)
  obtain ⟨inf, zv, hinf, hzero, hs, _, hzc⟩ := E.info
  rcases hrow with ⟨hg0, hl0, _⟩ | ⟨g, cur, hg, hheap, htot, hlen, hcell⟩
  · omega
  · rw [hg] at h5
    obtain ⟨o', h6, h7, _⟩ := h5
    obtain rfl := h7.resolve_right (by omega)
    have hvl : (List.replicate n z0).length = n := List.length_replicate
    have hpl : (List.replicate n (PV.v z0)).length = n := List.length_replicate
    have hst := run_storeCells_at (P := P) g o' e (List.replicate n z0) 0 cur w hheap (by rw [hvl]; omega) (fun u hu => by rw [List.eq_of_mem_replicate hu]; exact hz1)
    simp only [Nat.add_zero] at hst
    have hzn : (Builtin.zeroCells zv.cells n).toList = List.replicate n z0 := by
      rw [hzc]
      simp [Builtin.zeroCells]
      apply List.ext_getElem
      · simp
      · intro i h1 h2
        simp [Nat.mod_one]
    obtain ⟨m, rfl⟩ : ∃ m, n = m + 1 := ⟨n - 1, by omega⟩
    have hclr : (Builtin.clear_ #[T] o.type #[a.eval x]).run P w = .ok (.tuple #[]) (w.setRow g (putL cur.toList o' (List.replicate (m + 1) z0)).toArray) := by
      rw [h6]
      have hzr : (zeroValue e).run P w = .ok zv w := by simp [zeroValue, typeInfo, Sem.run, hinf, hzero]
      simp [Builtin.clear_, run_underlying E.und, hzr, hzn, hst, putL]
    have hrun : (execOp a.eval o).run P w = .ok (.value (.tuple #[])) (w.setRow g (putL cur.toList o' (List.replicate (m + 1) z0)).toArray) := by
      unfold execOp
      simp only [ho, resolve, invoke, builtin, Sem.run_bind, Sem.run_pure, Result.andThen_ok, List.map_toArray, List.map_cons, List.map_nil, hclr]
    have hcl : o' + (List.replicate (m + 1) z0).length ≤ cur.toList.length := by rw [hvl]; simp; omega
    have hcp : o' + (List.replicate (m + 1) (PV.v z0)).length ≤ xs.length := by rw [hpl]; exact hfit
    have hk : Keeps (fun k => B.g = some k) w (w.setRow g (putL cur.toList o' (List.replicate (m + 1) z0)).toArray) := keeps_setRow w g _ hg
    have hwS : ∀ k, S k → (w.setRow g (putL cur.toList o' (List.replicate (m + 1) z0)).toArray).heap[k]? = w.heap[k]? := fun k hk' => setRow_other w g k _ fun e => (R.sep id B g h1 hg).1 (e ▸ hk')
    have R1 := R.upd (o' := .row e 1 (putL xs o' (List.replicate (m + 1) (PV.v z0)))) hid h1 hk ⟨B, h1, hsz, .inr ⟨g, _, hg, setRow_heap w g _ _ e _ hheap, by simp [putL_len _ _ _ hcl, htot], by
        rw [putL_len _ _ _ hcp]; simp [putL_len _ _ _ hcl, hlen], fun j hj => ?_⟩⟩ (fun i hi => hi.elim)
    · exact yields_value hrun ⟨ι, S, R1.put o.dst (by exact .dead) fun i hi => by cases hi⟩
    · rw [putL_len _ _ _ hcp] at hj
      by_cases hin : o' ≤ j ∧ j < o' + (m + 1)
      · refine ⟨z0, ?_, hz1, fun b hb => ?_⟩
        · rw [List.getElem?_toArray, putL_get _ _ _ hcl, if_pos (by rw [hvl]; exact hin)]
          rw [List.getElem?_replicate, if_pos (by omega)]
        · rw [putL_get _ _ _ hcp, if_pos (by rw [hpl]; exact hin)] at hb
          have := List.eq_of_mem_replicate (List.mem_of_getElem? hb)
          subst this
          exact .v hz1
      · obtain ⟨u, hu, hu1, hu2⟩ := hcell j hj
        refine ⟨u, ?_, hu1, fun b hb => ?_⟩
        · rw [List.getElem?_toArray, putL_get _ _ _ hcl, if_neg (by rw [hvl]; exact hin)]; simpa using hu
        · rw [putL_get _ _ _ hcp, if_neg (by rw [hpl]; exact hin)] at hb
          exact (hu2 b hb).next hwS (fun _ h => h)
end Go.Proofs.Ytkbkmngbenohkaa
