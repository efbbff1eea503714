/- The machine's rules: drawn regions with their lists spelt out. No program text. -/
import Derived.Test.YtphlaojoehmhaaaDLib17
set_option linter.unusedSimpArgs false
set_option linter.unusedVariables false
namespace Go.Proofs.Ytphlaojoehmhaaa
open Go.RowKit
theorem any_n {P : Program} {all : List Oper} {W : List Nat} {I : List Oid} {σ : St} {Kont : List Res → Prop} {os : List Oper} {rs rs' : List Res} (h : rs = rs') (hh : AnyOps P all W I σ Kont os rs') : AnyOps P all W I σ Kont os rs := h ▸ hh
theorem D_anyL {P : Program} {Q : Exit → St → Prop} {σ : St} {id : Nat} {l hd tl : List Oper} (n : Nat) (W : List Nat) (I : List Oid) (hm : P.follows .mixedOrders = true) (hB : headB l.toArray n = true) (hW : (l.take n).filterMap (·.dst) = W) (hI : I.Nodup)
    (e1 : l.take n = hd) (e2 : l.drop n = tl) (h : AnyOps P hd W I σ (fun rs => made rs = I ∧ DL P l.toArray Q tl (stOf hd rs (fun _ => true) 0 σ)) hd []) : D P (.region id l.toArray true) Q σ := by
  subst e1; subst e2
  exact D_any n W I hm hB hW hI h
end Go.Proofs.Ytphlaojoehmhaaa
