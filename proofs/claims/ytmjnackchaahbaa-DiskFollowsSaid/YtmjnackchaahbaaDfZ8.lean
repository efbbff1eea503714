/- part 8 -/
import Derived.Test.YtmjnackchaahbaaDfZ7
set_option linter.unusedSimpArgs false
set_option linter.unusedVariables false
namespace Go.Proofs.Ytmjnackchaahbaa
open Go.RowKit

section
variable (M:Mk) (s:Ms) (dr se:Int)
theorem ph (ac st:aw) (k:Nat) (hk:k < 9):(qi M s dr se ac st)[44+k]? =some (.v (.int .i64 (M.nm k))):=by
  rcases k with _ | _ | _ | _ | _ | _ | _ | _ | _ | k
  all_goals first | rfl | omega
theorem bW (j k:Nat) (h:j+k < s.stack.length):({ s with stack:=s.pop k }:Ms).top j=s.top (j+k):=by
  unfold Ms.top Ms.pop
  simp only [List.length_take]
  rw [List.getD_eq_getElem?_getD,List.getD_eq_getElem?_getD,List.getElem?_take_of_lt ab]
  congr 2;omega
theorem bY (j k:Nat):({ s with stack:=s.pop k }:Ms).pop j=s.pop (j+k):=by
  unfold Ms.pop
  simp only [List.length_take,List.take_take]
  congr 1;omega
theorem kZ (k:Nat) (hk:k < 9) (hs:s.stack.length≤90000):
    Spec Try.prog 40 (aZ [.ptr (0,9) 0, .v (.int .i64 (k:Int))] (eL M s dr se)) (aS (.tup []) (eH M { s with stack:=s.stack++[fF (M.nm k)] } dr se (2,8) (3,8)) [(0,9),(1,9),(2,8),(3,8)] [(0,9),(1,9)]):=by
  refine Spec.ofNI Try.func40 rfl Try.ntmps40 rfl ?_
  refine an ?_
  refine aj (au _ bI) ?_
  refine aj (au _ bI) ?_
  refine aj (au _ bc) ?_
  refine aj (aR _ rfl rfl) ?_
  first
    | refine aj (aA _ aa rfl rfl rfl) ?_
    | refine aj (aC _ aa rfl rfl) ?_
  first
    | refine aj (aA _ aa rfl rfl rfl) ?_
    | refine aj (aC _ aa rfl rfl) ?_
  refine aj (em _ _ aa rfl rfl rfl k rfl ab (by exact congrArg (fun z=> 0+43+1+z) (Nat.mul_one k))) ?_
  refine aj (aK _ aa rfl rfl (by exact (congrArg (fun z=> (qi M s dr se (2,9) (3,9))[z]?) ab).trans (ph M s dr se (2,9) (3,9) k hk))) ?_
  refine bj (Le.incT (12,0) rfl) ?_
  refine aj (aH aa [((3,8),(12,0))] ?_ (bK M s dr se (M.nm k) ab) ⟨⟨rfl,⟨_,rfl, .box ag (ai .sl (ai .v (ai .v (ai .v (ai .v (ai .v (ai .v (ai .v (ai .v (ai .v (ai .v (ai .v (ai .v (ai .v (ai .v (ai .v (ai .v (ai .v (ai .v (ai .v (ai .v (ai .v (ai .v (ai .v (ai .v (ai .v (ai .v (ai .v (ai .v (ai .v (ai .v (ai .v (ai .v (ai .v (ai .v (ai .v (ai .v (ai .v (ai .v (ai .v (ai .v (ai .v (ai .v (ai .sl (ai .v (ai .v (ai .v (ai .v (ai .v (ai .v (ai .v (ai .v (ai .v (ai (.fn rfl am rfl am) (ai (aq (id:=(1,9)) (id':=(1,9)) rfl rfl) (ai (aq (id:=(2,9)) (id':=(2,9)) rfl rfl) (ai .v (ai .v (ai .v (ai (aq (id:=(3,9)) (id':=(3,9)) rfl rfl) (ai .v (ai .v (ai .v (ai .v am))))))))))))))))))))))))))))))))))))))))))))))))))))))))))))))))⟩,rfl⟩,⟨rfl,⟨_,rfl, .rowE rfl⟩,rfl⟩,⟨rfl,⟨_,rfl, .rowE rfl⟩,rfl⟩,⟨rfl,⟨_,rfl, .rowE rfl⟩,rfl⟩,trivial⟩ ⟨rfl,rfl,rfl,rfl,trivial⟩ ⟨rfl,rfl,rfl,rfl,trivial⟩ rfl ae ae) ?_
  · repeat' (first | exact aD | refine aB ?_ ?_ | exact Lv.v | exact aF (by assumption) | exact aF ab | exact Lv.sl | exact Lv.fp | exact Lv.nil | exact aq rfl rfl | exact aP rfl | refine Lv.agg rfl ?_ | refine Lv.fn rfl ?_ rfl ?_ | refine Lv.ifc ?_ | exact am | refine ai ?_ ?_)
  refine ap ?_
  exact cR (.inl rfl) rfl (Le.outI [((2,8),(2,9)),((3,8),(12,0))] [] (.tup rfl am) rfl rfl rfl trivial ⟨⟨rfl,⟨_,rfl, .box rfl (ai .sl (ai .v (ai .v (ai .v (ai .v (ai .v (ai .v (ai .v (ai .v (ai .v (ai .v (ai .v (ai .v (ai .v (ai .v (ai .v (ai .v (ai .v (ai .v (ai .v (ai .v (ai .v (ai .v (ai .v (ai .v (ai .v (ai .v (ai .v (ai .v (ai .v (ai .v (ai .v (ai .v (ai .v (ai .v (ai .v (ai .v (ai .v (ai .v (ai .v (ai .v (ai .v (ai .v (ai .sl (ai .v (ai .v (ai .v (ai .v (ai .v (ai .v (ai .v (ai .v (ai .v (ai (.fn rfl am rfl am) (ai (aq rfl rfl) (ai (aq rfl rfl) (ai .v (ai .v (ai .v (ai (aq rfl rfl) (ai .v (ai .v (ai .v (ai .v am))))))))))))))))))))))))))))))))))))))))))))))))))))))))))))))))⟩,rfl⟩,⟨rfl,⟨_,rfl, .rowE rfl⟩,rfl⟩,⟨rfl,⟨_,rfl, .rowE rfl⟩,rfl⟩,⟨rfl,⟨_,rfl, .rowE rfl⟩,rfl⟩,trivial⟩ ⟨rfl,rfl,trivial⟩ rfl)
theorem mE (n:Nat) (hs:s.stack.length≤90000) (h0:0 < s.stack.length) (hc:s.top 0=0):
    Spec Try.prog 55 (aZ [.ptr (0,9) 0, .v (.int .i64 (n:Int))] (eL M s dr se)) (aS (.tup []) (eH M { s with stack:=s.pop 1,pc:=n } dr se (2,8) (3,8)) [(0,9),(1,9),(2,8),(3,8)] [(0,9),(1,9)]):=by
  refine Spec.ofNI Try.func55 rfl Try.ntmps55 rfl ?_
  refine ay fun K1 hK1=> ?_
  refine an ?_
  refine aj (au _ bI) ?_
  refine bj (Le.incT (5,0) rfl) ?_
  refine aj (aH aa [((3,8),(5,0))] ?_ (aW M s dr se ab h0) ⟨⟨rfl,⟨_,rfl, .box ag (ai .sl (ai .v (ai .v (ai .v (ai .v (ai .v (ai .v (ai .v (ai .v (ai .v (ai .v (ai .v (ai .v (ai .v (ai .v (ai .v (ai .v (ai .v (ai .v (ai .v (ai .v (ai .v (ai .v (ai .v (ai .v (ai .v (ai .v (ai .v (ai .v (ai .v (ai .v (ai .v (ai .v (ai .v (ai .v (ai .v (ai .v (ai .v (ai .v (ai .v (ai .v (ai .v (ai .v (ai .sl (ai .v (ai .v (ai .v (ai .v (ai .v (ai .v (ai .v (ai .v (ai .v (ai (.fn rfl am rfl am) (ai (aq (id:=(1,9)) (id':=(1,9)) rfl rfl) (ai (aq (id:=(2,9)) (id':=(2,9)) rfl rfl) (ai .v (ai .v (ai .v (ai (aq (id:=(3,9)) (id':=(3,9)) rfl rfl) (ai .v (ai .v (ai .v (ai .v am))))))))))))))))))))))))))))))))))))))))))))))))))))))))))))))))⟩,rfl⟩,⟨rfl,⟨_,rfl, .rowE rfl⟩,rfl⟩,⟨rfl,⟨_,rfl, .rowE rfl⟩,rfl⟩,⟨rfl,⟨_,rfl, .rowE rfl⟩,rfl⟩,trivial⟩ ⟨rfl,rfl,rfl,rfl,trivial⟩ ⟨rfl,rfl,rfl,rfl,trivial⟩ rfl ae ae) ?_
  · repeat' (first | exact aD | refine aB ?_ ?_ | exact Lv.v | exact aF (by assumption) | exact aF ab | exact Lv.sl | exact Lv.fp | exact Lv.nil | exact aq rfl rfl | exact aP rfl | refine Lv.agg rfl ?_ | refine Lv.fn rfl ?_ rfl ?_ | refine Lv.ifc ?_ | exact am | refine ai ?_ ?_)
  first
    | refine aj (ca _ _ rfl rfl (by assumption)) ?_
    | refine aj (ca _ _ rfl rfl rfl) ?_
  refine ap (hK1 _ ?_)
  clear hK1;try clear K1
  refine gH rfl (decide_eq_true hc) ?_
  refine an ?_
  refine aj (au _ bI) ?_
  refine aj (au _ bc) ?_
  refine aj (aR _ rfl rfl) ?_
  first
    | refine aj (aA _ aa rfl rfl rfl) ?_
    | refine aj (aC _ aa rfl rfl) ?_
  refine aj (aT _ _ aa rfl rfl rfl rfl (Nat.le_of_ble_eq_true rfl) rfl) ?_
  refine ap ?_
  exact cR (.inl rfl) rfl (Le.outI [((2,8),(2,9)),((3,8),(5,0))] [] (.tup rfl am) rfl rfl rfl trivial ⟨⟨rfl,⟨_,rfl, .box rfl (ai .sl (ai .v (ai .v (ai .v (ai .v (ai .v (ai .v (ai .v (ai .v (ai .v (ai .v (ai .v (ai .v (ai .v (ai .v (ai .v (ai .v (ai .v (ai .v (ai .v (ai .v (ai .v (ai .v (ai .v (ai .v (ai .v (ai .v (ai .v (ai .v (ai .v (ai .v (ai .v (ai .v (ai .v (ai .v (ai .v (ai .v (ai .v (ai .v (ai .v (ai .v (ai .v (ai .v (ai .sl (ai .v (ai .v (ai .v (ai .v (ai .v (ai .v (ai .v (ai .v (ai .v (ai (.fn rfl am rfl am) (ai (aq rfl rfl) (ai (aq rfl rfl) (ai .v (ai .v (ai .v (ai (aq rfl rfl) (ai .v (ai .v (ai .v (ai .v am))))))))))))))))))))))))))))))))))))))))))))))))))))))))))))))))⟩,rfl⟩,⟨rfl,⟨_,rfl, .rowE rfl⟩,rfl⟩,⟨rfl,⟨_,rfl, .rowE rfl⟩,rfl⟩,⟨rfl,⟨_,rfl, .rowE rfl⟩,rfl⟩,trivial⟩ ⟨rfl,rfl,trivial⟩ rfl)
theorem nn (n:Int) (hs:s.stack.length≤90000) (h0:0 < s.stack.length) (hc:s.top 0=0):
    Spec Try.prog 53 (aZ [.ptr (0,9) 0, .v (.int .i64 n)] (eL M s dr se)) (aS (.tup []) (eH M { s with stack:=s.pop 1++[1] } dr se (2,8) (3,8)) [(0,9),(1,9),(2,8),(3,8)] [(0,9),(1,9)]):=by
  rw [show (1:Int)=fF 1 from ah]
  refine Spec.ofNI Try.func53 rfl Try.ntmps53 rfl ?_
  refine ay fun K1 hK1=> ?_
  refine an ?_
  refine aj (au _ bI) ?_
  refine bj (Le.incT (5,0) rfl) ?_
  refine aj (aH aa [((3,8),(5,0))] ?_ (aW M s dr se ab h0) ⟨⟨rfl,⟨_,rfl, .box ag (ai .sl (ai .v (ai .v (ai .v (ai .v (ai .v (ai .v (ai .v (ai .v (ai .v (ai .v (ai .v (ai .v (ai .v (ai .v (ai .v (ai .v (ai .v (ai .v (ai .v (ai .v (ai .v (ai .v (ai .v (ai .v (ai .v (ai .v (ai .v (ai .v (ai .v (ai .v (ai .v (ai .v (ai .v (ai .v (ai .v (ai .v (ai .v (ai .v (ai .v (ai .v (ai .v (ai .v (ai .sl (ai .v (ai .v (ai .v (ai .v (ai .v (ai .v (ai .v (ai .v (ai .v (ai (.fn rfl am rfl am) (ai (aq (id:=(1,9)) (id':=(1,9)) rfl rfl) (ai (aq (id:=(2,9)) (id':=(2,9)) rfl rfl) (ai .v (ai .v (ai .v (ai (aq (id:=(3,9)) (id':=(3,9)) rfl rfl) (ai .v (ai .v (ai .v (ai .v am))))))))))))))))))))))))))))))))))))))))))))))))))))))))))))))))⟩,rfl⟩,⟨rfl,⟨_,rfl, .rowE rfl⟩,rfl⟩,⟨rfl,⟨_,rfl, .rowE rfl⟩,rfl⟩,⟨rfl,⟨_,rfl, .rowE rfl⟩,rfl⟩,trivial⟩ ⟨rfl,rfl,rfl,rfl,trivial⟩ ⟨rfl,rfl,rfl,rfl,trivial⟩ rfl ae ae) ?_
  · repeat' (first | exact aD | refine aB ?_ ?_ | exact Lv.v | exact aF (by assumption) | exact aF ab | exact Lv.sl | exact Lv.fp | exact Lv.nil | exact aq rfl rfl | exact aP rfl | refine Lv.agg rfl ?_ | refine Lv.fn rfl ?_ rfl ?_ | refine Lv.ifc ?_ | exact am | refine ai ?_ ?_)
  first
    | refine aj (ca _ _ rfl rfl (by assumption)) ?_
    | refine aj (ca _ _ rfl rfl rfl) ?_
  refine ap (hK1 _ ?_)
  clear hK1;try clear K1
  refine gH rfl (decide_eq_true hc) ?_
  refine an ?_
  refine aj (au _ bI) ?_
  refine bj (Le.incT (8,0) rfl) ?_
  refine aj (aH aa [((3,9),(5,0)),((3,8),(8,0))] ?_ (bK M { s with stack:=s.pop 1 } dr se 1 (by have:=bd s 1;simp only;omega)) ⟨⟨rfl,⟨_,rfl, .box ag (ai .sl (ai .v (ai .v (ai .v (ai .v (ai .v (ai .v (ai .v (ai .v (ai .v (ai .v (ai .v (ai .v (ai .v (ai .v (ai .v (ai .v (ai .v (ai .v (ai .v (ai .v (ai .v (ai .v (ai .v (ai .v (ai .v (ai .v (ai .v (ai .v (ai .v (ai .v (ai .v (ai .v (ai .v (ai .v (ai .v (ai .v (ai .v (ai .v (ai .v (ai .v (ai .v (ai .v (ai .sl (ai .v (ai .v (ai .v (ai .v (ai .v (ai .v (ai .v (ai .v (ai .v (ai (.fn rfl am rfl am) (ai (aq (id:=(1,9)) (id':=(1,9)) rfl rfl) (ai (aq (id:=(2,9)) (id':=(2,9)) rfl rfl) (ai .v (ai .v (ai .v (ai (aq (id:=(3,9)) (id':=(5,0)) rfl rfl) (ai .v (ai .v (ai .v (ai .v am))))))))))))))))))))))))))))))))))))))))))))))))))))))))))))))))⟩,rfl⟩,⟨rfl,⟨_,rfl, .rowE rfl⟩,rfl⟩,⟨rfl,⟨_,rfl, .rowE rfl⟩,rfl⟩,⟨rfl,⟨_,rfl, .rowE rfl⟩,rfl⟩,trivial⟩ ⟨rfl,rfl,rfl,rfl,trivial⟩ ⟨rfl,rfl,rfl,rfl,trivial⟩ rfl ae ae) ?_
  · repeat' (first | exact aD | refine aB ?_ ?_ | exact Lv.v | exact aF (by assumption) | exact aF ab | exact Lv.sl | exact Lv.fp | exact Lv.nil | exact aq rfl rfl | exact aP rfl | refine Lv.agg rfl ?_ | refine Lv.fn rfl ?_ rfl ?_ | refine Lv.ifc ?_ | exact am | refine ai ?_ ?_)
  refine ap ?_
  exact cR (.inl rfl) rfl (Le.outI [((2,8),(2,9)),((3,8),(8,0))] [] (.tup rfl am) rfl rfl rfl trivial ⟨⟨rfl,⟨_,rfl, .box rfl (ai .sl (ai .v (ai .v (ai .v (ai .v (ai .v (ai .v (ai .v (ai .v (ai .v (ai .v (ai .v (ai .v (ai .v (ai .v (ai .v (ai .v (ai .v (ai .v (ai .v (ai .v (ai .v (ai .v (ai .v (ai .v (ai .v (ai .v (ai .v (ai .v (ai .v (ai .v (ai .v (ai .v (ai .v (ai .v (ai .v (ai .v (ai .v (ai .v (ai .v (ai .v (ai .v (ai .v (ai .sl (ai .v (ai .v (ai .v (ai .v (ai .v (ai .v (ai .v (ai .v (ai .v (ai (.fn rfl am rfl am) (ai (aq rfl rfl) (ai (aq rfl rfl) (ai .v (ai .v (ai .v (ai (aq rfl rfl) (ai .v (ai .v (ai .v (ai .v am))))))))))))))))))))))))))))))))))))))))))))))))))))))))))))))))⟩,rfl⟩,⟨rfl,⟨_,rfl, .rowE rfl⟩,rfl⟩,⟨rfl,⟨_,rfl, .rowE rfl⟩,rfl⟩,⟨rfl,⟨_,rfl, .rowE rfl⟩,rfl⟩,trivial⟩ ⟨rfl,rfl,trivial⟩ rfl)
theorem ms (n:Nat) (hs:s.stack.length≤90000) (h0:0 < s.stack.length) (hc:s.top 0≠0):
    Spec Try.prog 55 (aZ [.ptr (0,9) 0, .v (.int .i64 (n:Int))] (eL M s dr se)) (aS (.tup []) (eH M { s with stack:=s.pop 1 } dr se (2,8) (3,8)) [(0,9),(1,9),(2,8),(3,8)] [(0,9),(1,9)]):=by
  refine Spec.ofNI Try.func55 rfl Try.ntmps55 rfl ?_
  refine ay fun K1 hK1=> ?_
  refine an ?_
  refine aj (au _ bI) ?_
  refine bj (Le.incT (5,0) rfl) ?_
  refine aj (aH aa [((3,8),(5,0))] ?_ (aW M s dr se ab h0) ⟨⟨rfl,⟨_,rfl, .box ag (ai .sl (ai .v (ai .v (ai .v (ai .v (ai .v (ai .v (ai .v (ai .v (ai .v (ai .v (ai .v (ai .v (ai .v (ai .v (ai .v (ai .v (ai .v (ai .v (ai .v (ai .v (ai .v (ai .v (ai .v (ai .v (ai .v (ai .v (ai .v (ai .v (ai .v (ai .v (ai .v (ai .v (ai .v (ai .v (ai .v (ai .v (ai .v (ai .v (ai .v (ai .v (ai .v (ai .v (ai .sl (ai .v (ai .v (ai .v (ai .v (ai .v (ai .v (ai .v (ai .v (ai .v (ai (.fn rfl am rfl am) (ai (aq (id:=(1,9)) (id':=(1,9)) rfl rfl) (ai (aq (id:=(2,9)) (id':=(2,9)) rfl rfl) (ai .v (ai .v (ai .v (ai (aq (id:=(3,9)) (id':=(3,9)) rfl rfl) (ai .v (ai .v (ai .v (ai .v am))))))))))))))))))))))))))))))))))))))))))))))))))))))))))))))))⟩,rfl⟩,⟨rfl,⟨_,rfl, .rowE rfl⟩,rfl⟩,⟨rfl,⟨_,rfl, .rowE rfl⟩,rfl⟩,⟨rfl,⟨_,rfl, .rowE rfl⟩,rfl⟩,trivial⟩ ⟨rfl,rfl,rfl,rfl,trivial⟩ ⟨rfl,rfl,rfl,rfl,trivial⟩ rfl ae ae) ?_
  · repeat' (first | exact aD | refine aB ?_ ?_ | exact Lv.v | exact aF (by assumption) | exact aF ab | exact Lv.sl | exact Lv.fp | exact Lv.nil | exact aq rfl rfl | exact aP rfl | refine Lv.agg rfl ?_ | refine Lv.fn rfl ?_ rfl ?_ | refine Lv.ifc ?_ | exact am | refine ai ?_ ?_)
  first
    | refine aj (ca _ _ rfl rfl (by assumption)) ?_
    | refine aj (ca _ _ rfl rfl rfl) ?_
  refine ap (hK1 _ ?_)
  clear hK1;try clear K1
  refine eE rfl (decide_eq_false hc) ?_
  refine bw ?_
  exact cR (.inl rfl) rfl (Le.outI [((2,8),(2,9)),((3,8),(5,0))] [] (.tup rfl am) rfl rfl rfl trivial ⟨⟨rfl,⟨_,rfl, .box rfl (ai .sl (ai .v (ai .v (ai .v (ai .v (ai .v (ai .v (ai .v (ai .v (ai .v (ai .v (ai .v (ai .v (ai .v (ai .v (ai .v (ai .v (ai .v (ai .v (ai .v (ai .v (ai .v (ai .v (ai .v (ai .v (ai .v (ai .v (ai .v (ai .v (ai .v (ai .v (ai .v (ai .v (ai .v (ai .v (ai .v (ai .v (ai .v (ai .v (ai .v (ai .v (ai .v (ai .v (ai .sl (ai .v (ai .v (ai .v (ai .v (ai .v (ai .v (ai .v (ai .v (ai .v (ai (.fn rfl am rfl am) (ai (aq rfl rfl) (ai (aq rfl rfl) (ai .v (ai .v (ai .v (ai (aq rfl rfl) (ai .v (ai .v (ai .v (ai .v am))))))))))))))))))))))))))))))))))))))))))))))))))))))))))))))))⟩,rfl⟩,⟨rfl,⟨_,rfl, .rowE rfl⟩,rfl⟩,⟨rfl,⟨_,rfl, .rowE rfl⟩,rfl⟩,⟨rfl,⟨_,rfl, .rowE rfl⟩,rfl⟩,trivial⟩ ⟨rfl,rfl,trivial⟩ rfl)
theorem ni (n:Int) (hs:s.stack.length≤90000) (h0:0 < s.stack.length) (hc:s.top 0≠0):
    Spec Try.prog 53 (aZ [.ptr (0,9) 0, .v (.int .i64 n)] (eL M s dr se)) (aS (.tup []) (eH M { s with stack:=s.pop 1++[0] } dr se (2,8) (3,8)) [(0,9),(1,9),(2,8),(3,8)] [(0,9),(1,9)]):=by
  rw [show (0:Int)=fF 0 from ah]
  refine Spec.ofNI Try.func53 rfl Try.ntmps53 rfl ?_
  refine ay fun K1 hK1=> ?_
  refine an ?_
  refine aj (au _ bI) ?_
  refine bj (Le.incT (5,0) rfl) ?_
  refine aj (aH aa [((3,8),(5,0))] ?_ (aW M s dr se ab h0) ⟨⟨rfl,⟨_,rfl, .box ag (ai .sl (ai .v (ai .v (ai .v (ai .v (ai .v (ai .v (ai .v (ai .v (ai .v (ai .v (ai .v (ai .v (ai .v (ai .v (ai .v (ai .v (ai .v (ai .v (ai .v (ai .v (ai .v (ai .v (ai .v (ai .v (ai .v (ai .v (ai .v (ai .v (ai .v (ai .v (ai .v (ai .v (ai .v (ai .v (ai .v (ai .v (ai .v (ai .v (ai .v (ai .v (ai .v (ai .v (ai .sl (ai .v (ai .v (ai .v (ai .v (ai .v (ai .v (ai .v (ai .v (ai .v (ai (.fn rfl am rfl am) (ai (aq (id:=(1,9)) (id':=(1,9)) rfl rfl) (ai (aq (id:=(2,9)) (id':=(2,9)) rfl rfl) (ai .v (ai .v (ai .v (ai (aq (id:=(3,9)) (id':=(3,9)) rfl rfl) (ai .v (ai .v (ai .v (ai .v am))))))))))))))))))))))))))))))))))))))))))))))))))))))))))))))))⟩,rfl⟩,⟨rfl,⟨_,rfl, .rowE rfl⟩,rfl⟩,⟨rfl,⟨_,rfl, .rowE rfl⟩,rfl⟩,⟨rfl,⟨_,rfl, .rowE rfl⟩,rfl⟩,trivial⟩ ⟨rfl,rfl,rfl,rfl,trivial⟩ ⟨rfl,rfl,rfl,rfl,trivial⟩ rfl ae ae) ?_
  · repeat' (first | exact aD | refine aB ?_ ?_ | exact Lv.v | exact aF (by assumption) | exact aF ab | exact Lv.sl | exact Lv.fp | exact Lv.nil | exact aq rfl rfl | exact aP rfl | refine Lv.agg rfl ?_ | refine Lv.fn rfl ?_ rfl ?_ | refine Lv.ifc ?_ | exact am | refine ai ?_ ?_)
  first
    | refine aj (ca _ _ rfl rfl (by assumption)) ?_
    | refine aj (ca _ _ rfl rfl rfl) ?_
  refine ap (hK1 _ ?_)
  clear hK1;try clear K1
  refine eE rfl (decide_eq_false hc) ?_
  refine an ?_
  refine aj (au _ bI) ?_
  refine bj (Le.incT (10,0) rfl) ?_
  refine aj (aH aa [((3,9),(5,0)),((3,8),(10,0))] ?_ (bK M { s with stack:=s.pop 1 } dr se 0 (by have:=bd s 1;simp only;omega)) ⟨⟨rfl,⟨_,rfl, .box ag (ai .sl (ai .v (ai .v (ai .v (ai .v (ai .v (ai .v (ai .v (ai .v (ai .v (ai .v (ai .v (ai .v (ai .v (ai .v (ai .v (ai .v (ai .v (ai .v (ai .v (ai .v (ai .v (ai .v (ai .v (ai .v (ai .v (ai .v (ai .v (ai .v (ai .v (ai .v (ai .v (ai .v (ai .v (ai .v (ai .v (ai .v (ai .v (ai .v (ai .v (ai .v (ai .v (ai .v (ai .sl (ai .v (ai .v (ai .v (ai .v (ai .v (ai .v (ai .v (ai .v (ai .v (ai (.fn rfl am rfl am) (ai (aq (id:=(1,9)) (id':=(1,9)) rfl rfl) (ai (aq (id:=(2,9)) (id':=(2,9)) rfl rfl) (ai .v (ai .v (ai .v (ai (aq (id:=(3,9)) (id':=(5,0)) rfl rfl) (ai .v (ai .v (ai .v (ai .v am))))))))))))))))))))))))))))))))))))))))))))))))))))))))))))))))⟩,rfl⟩,⟨rfl,⟨_,rfl, .rowE rfl⟩,rfl⟩,⟨rfl,⟨_,rfl, .rowE rfl⟩,rfl⟩,⟨rfl,⟨_,rfl, .rowE rfl⟩,rfl⟩,trivial⟩ ⟨rfl,rfl,rfl,rfl,trivial⟩ ⟨rfl,rfl,rfl,rfl,trivial⟩ rfl ae ae) ?_
  · repeat' (first | exact aD | refine aB ?_ ?_ | exact Lv.v | exact aF (by assumption) | exact aF ab | exact Lv.sl | exact Lv.fp | exact Lv.nil | exact aq rfl rfl | exact aP rfl | refine Lv.agg rfl ?_ | refine Lv.fn rfl ?_ rfl ?_ | refine Lv.ifc ?_ | exact am | refine ai ?_ ?_)
  refine ap ?_
  exact cR (.inl rfl) rfl (Le.outI [((2,8),(2,9)),((3,8),(10,0))] [] (.tup rfl am) rfl rfl rfl trivial ⟨⟨rfl,⟨_,rfl, .box rfl (ai .sl (ai .v (ai .v (ai .v (ai .v (ai .v (ai .v (ai .v (ai .v (ai .v (ai .v (ai .v (ai .v (ai .v (ai .v (ai .v (ai .v (ai .v (ai .v (ai .v (ai .v (ai .v (ai .v (ai .v (ai .v (ai .v (ai .v (ai .v (ai .v (ai .v (ai .v (ai .v (ai .v (ai .v (ai .v (ai .v (ai .v (ai .v (ai .v (ai .v (ai .v (ai .v (ai .v (ai .sl (ai .v (ai .v (ai .v (ai .v (ai .v (ai .v (ai .v (ai .v (ai .v (ai (.fn rfl am rfl am) (ai (aq rfl rfl) (ai (aq rfl rfl) (ai .v (ai .v (ai .v (ai (aq rfl rfl) (ai .v (ai .v (ai .v (ai .v am))))))))))))))))))))))))))))))))))))))))))))))))))))))))))))))))⟩,rfl⟩,⟨rfl,⟨_,rfl, .rowE rfl⟩,rfl⟩,⟨rfl,⟨_,rfl, .rowE rfl⟩,rfl⟩,⟨rfl,⟨_,rfl, .rowE rfl⟩,rfl⟩,trivial⟩ ⟨rfl,rfl,trivial⟩ rfl)
theorem lE (n:Int) (hs:s.stack.length≤90000) (ha:s.acts.length≤90000) (h2:2≤s.stack.length):
    Spec Try.prog 60 (aZ [.ptr (0,9) 0, .v (.int .i64 n)] (eL M s dr se)) (aS (.tup []) (eH M { s with stack:=s.pop 2,acts:=s.acts++[{ k:=6,a:=s.top 1,b:=s.top 0 }] } dr se (2,8) (3,8)) [(0,9),(1,9),(2,8),(3,8)] [(0,9),(1,9)]):=by
  have h2x:=aW M { s with stack:=s.pop 1 } dr se (by have:=bd s 1;simp only;omega) (by have:=bd s 1;simp only;omega)
  rw [bW s 0 1 ab,bY] at h2x
  refine Spec.ofNI Try.func60 rfl Try.ntmps60 rfl ?_
  refine ay fun K1 hK1=> ?_
  refine an ?_
  refine aj (au _ bI) ?_
  refine bj (Le.incT (6,0) rfl) ?_
  refine aj (aH aa [((3,8),(6,0))] ?_ (aW M s dr se ab ab) ⟨⟨rfl,⟨_,rfl, .box ag (ai .sl (ai .v (ai .v (ai .v (ai .v (ai .v (ai .v (ai .v (ai .v (ai .v (ai .v (ai .v (ai .v (ai .v (ai .v (ai .v (ai .v (ai .v (ai .v (ai .v (ai .v (ai .v (ai .v (ai .v (ai .v (ai .v (ai .v (ai .v (ai .v (ai .v (ai .v (ai .v (ai .v (ai .v (ai .v (ai .v (ai .v (ai .v (ai .v (ai .v (ai .v (ai .v (ai .v (ai .sl (ai .v (ai .v (ai .v (ai .v (ai .v (ai .v (ai .v (ai .v (ai .v (ai (.fn rfl am rfl am) (ai (aq (id:=(1,9)) (id':=(1,9)) rfl rfl) (ai (aq (id:=(2,9)) (id':=(2,9)) rfl rfl) (ai .v (ai .v (ai .v (ai (aq (id:=(3,9)) (id':=(3,9)) rfl rfl) (ai .v (ai .v (ai .v (ai .v am))))))))))))))))))))))))))))))))))))))))))))))))))))))))))))))))⟩,rfl⟩,⟨rfl,⟨_,rfl, .rowE rfl⟩,rfl⟩,⟨rfl,⟨_,rfl, .rowE rfl⟩,rfl⟩,⟨rfl,⟨_,rfl, .rowE rfl⟩,rfl⟩,trivial⟩ ⟨rfl,rfl,rfl,rfl,trivial⟩ ⟨rfl,rfl,rfl,rfl,trivial⟩ rfl ae ae) ?_
  · repeat' (first | exact aD | refine aB ?_ ?_ | exact Lv.v | exact aF (by assumption) | exact aF ab | exact Lv.sl | exact Lv.fp | exact Lv.nil | exact aq rfl rfl | exact aP rfl | refine Lv.agg rfl ?_ | refine Lv.fn rfl ?_ rfl ?_ | refine Lv.ifc ?_ | exact am | refine ai ?_ ?_)
  refine aj (aM _ bc) ?_
  refine ap (hK1 _ ?_)
  clear hK1;try clear K1
  refine an ?_
  refine aj (au _ bI) ?_
  refine aj (au _ bI) ?_
  refine bj (Le.incT (9,0) rfl) ?_
  refine aj (aH aa [((3,9),(6,0)),((3,8),(9,0))] ?_ (h2x) ⟨⟨rfl,⟨_,rfl, .box ag (ai .sl (ai .v (ai .v (ai .v (ai .v (ai .v (ai .v (ai .v (ai .v (ai .v (ai .v (ai .v (ai .v (ai .v (ai .v (ai .v (ai .v (ai .v (ai .v (ai .v (ai .v (ai .v (ai .v (ai .v (ai .v (ai .v (ai .v (ai .v (ai .v (ai .v (ai .v (ai .v (ai .v (ai .v (ai .v (ai .v (ai .v (ai .v (ai .v (ai .v (ai .v (ai .v (ai .v (ai .sl (ai .v (ai .v (ai .v (ai .v (ai .v (ai .v (ai .v (ai .v (ai .v (ai (.fn rfl am rfl am) (ai (aq (id:=(1,9)) (id':=(1,9)) rfl rfl) (ai (aq (id:=(2,9)) (id':=(2,9)) rfl rfl) (ai .v (ai .v (ai .v (ai (aq (id:=(3,9)) (id':=(6,0)) rfl rfl) (ai .v (ai .v (ai .v (ai .v am))))))))))))))))))))))))))))))))))))))))))))))))))))))))))))))))⟩,rfl⟩,⟨rfl,⟨_,rfl, .rowE rfl⟩,rfl⟩,⟨rfl,⟨_,rfl, .rowE rfl⟩,rfl⟩,⟨rfl,⟨_,rfl, .rowE rfl⟩,rfl⟩,trivial⟩ ⟨rfl,rfl,rfl,rfl,trivial⟩ ⟨rfl,rfl,rfl,rfl,trivial⟩ rfl ae ae) ?_
  · repeat' (first | exact aD | refine aB ?_ ?_ | exact Lv.v | exact aF (by assumption) | exact aF ab | exact Lv.sl | exact Lv.fp | exact Lv.nil | exact aq rfl rfl | exact aP rfl | refine Lv.agg rfl ?_ | refine Lv.fn rfl ?_ rfl ?_ | refine Lv.ifc ?_ | exact am | refine ai ?_ ?_)
  refine aj (au _ bc) ?_
  refine bj (Le.incT (11,0) rfl) ?_
  refine aj (aH aa [((3,9),(9,0)),((2,8),(11,0))] ?_ (cz M { s with stack:=s.pop 2 } dr se 6 (s.top 1) (s.top 0) 0 0 (by simp only;omega)) ⟨⟨rfl,⟨_,rfl, .box ag (ai .sl (ai .v (ai .v (ai .v (ai .v (ai .v (ai .v (ai .v (ai .v (ai .v (ai .v (ai .v (ai .v (ai .v (ai .v (ai .v (ai .v (ai .v (ai .v (ai .v (ai .v (ai .v (ai .v (ai .v (ai .v (ai .v (ai .v (ai .v (ai .v (ai .v (ai .v (ai .v (ai .v (ai .v (ai .v (ai .v (ai .v (ai .v (ai .v (ai .v (ai .v (ai .v (ai .v (ai .sl (ai .v (ai .v (ai .v (ai .v (ai .v (ai .v (ai .v (ai .v (ai .v (ai (.fn rfl am rfl am) (ai (aq (id:=(1,9)) (id':=(1,9)) rfl rfl) (ai (aq (id:=(2,9)) (id':=(2,9)) rfl rfl) (ai .v (ai .v (ai .v (ai (aq (id:=(3,9)) (id':=(9,0)) rfl rfl) (ai .v (ai .v (ai .v (ai .v am))))))))))))))))))))))))))))))))))))))))))))))))))))))))))))))))⟩,rfl⟩,⟨rfl,⟨_,rfl, .rowE rfl⟩,rfl⟩,⟨rfl,⟨_,rfl, .rowE rfl⟩,rfl⟩,⟨rfl,⟨_,rfl, .rowE rfl⟩,rfl⟩,trivial⟩ ⟨rfl,rfl,rfl,rfl,trivial⟩ ⟨rfl,rfl,rfl,rfl,trivial⟩ rfl ae ae) ?_
  · repeat' (first | exact aD | refine aB ?_ ?_ | exact Lv.v | exact aF (by assumption) | exact aF ab | exact Lv.sl | exact Lv.fp | exact Lv.nil | exact aq rfl rfl | exact aP rfl | refine Lv.agg rfl ?_ | refine Lv.fn rfl ?_ rfl ?_ | refine Lv.ifc ?_ | exact am | refine ai ?_ ?_)
  refine ap ?_
  exact cR (.inl rfl) rfl (Le.outI [((2,8),(11,0)),((3,8),(9,0))] [] (.tup rfl am) rfl rfl rfl trivial ⟨⟨rfl,⟨_,rfl, .box rfl (ai .sl (ai .v (ai .v (ai .v (ai .v (ai .v (ai .v (ai .v (ai .v (ai .v (ai .v (ai .v (ai .v (ai .v (ai .v (ai .v (ai .v (ai .v (ai .v (ai .v (ai .v (ai .v (ai .v (ai .v (ai .v (ai .v (ai .v (ai .v (ai .v (ai .v (ai .v (ai .v (ai .v (ai .v (ai .v (ai .v (ai .v (ai .v (ai .v (ai .v (ai .v (ai .v (ai .v (ai .sl (ai .v (ai .v (ai .v (ai .v (ai .v (ai .v (ai .v (ai .v (ai .v (ai (.fn rfl am rfl am) (ai (aq rfl rfl) (ai (aq rfl rfl) (ai .v (ai .v (ai .v (ai (aq rfl rfl) (ai .v (ai .v (ai .v (ai .v am))))))))))))))))))))))))))))))))))))))))))))))))))))))))))))))))⟩,rfl⟩,⟨rfl,⟨_,rfl, .rowE rfl⟩,rfl⟩,⟨rfl,⟨_,rfl, .rowE rfl⟩,rfl⟩,⟨rfl,⟨_,rfl, .rowE rfl⟩,rfl⟩,trivial⟩ ⟨rfl,rfl,trivial⟩ rfl)
end

section
variable (M:Mk) (s:Ms) (dr se:Int)
theorem mB (n:Int) (hs:s.stack.length≤90000) (ha:s.acts.length≤90000) (h0:3≤s.stack.length) (hse: -100≤se) (h1:0≤s.top 2) (h2:s.top 2 < M.nm 1) (h3:se < 20):
    Spec Try.prog 56 (aZ [.ptr (0,9) 0, .v (.int .i64 n)] (eL M s dr se)) (aS (.tup []) (eH M { s with stack:=s.pop 3,acts:=s.acts++[{ k:=3,a:=s.top 2,b:=n,c:=s.top 1,d:=s.top 0 }] } dr (se+1) (2,8) (3,8)) [(0,9),(1,9),(2,8),(3,8)] [(0,9),(1,9)]):=by
  have h2x:=aW M { s with stack:=s.pop 1 } dr se (by have:=bd s 1;simp only;omega) (by have:=bd s 1;simp only;omega)
  rw [bW s 0 1 ab,bY,Nat.zero_add] at h2x
  have h3x:=aW M { s with stack:=s.pop 2 } dr se (by have:=bd s 2;simp only;omega) (by have:=bd s 2;simp only;omega)
  rw [bW s 0 2 ab,bY,Nat.zero_add] at h3x
  refine Spec.ofNI Try.func56 rfl Try.ntmps56 rfl ?_
  refine ay fun K1 hK1=> ?_
  refine an ?_
  refine aj (au _ bI) ?_
  refine bj (Le.incT (8,0) rfl) ?_
  refine aj (aH aa [((3,8),(8,0))] ?_ (aW M s dr se ab ab) ⟨⟨rfl,⟨_,rfl, .box ag (ai .sl (ai .v (ai .v (ai .v (ai .v (ai .v (ai .v (ai .v (ai .v (ai .v (ai .v (ai .v (ai .v (ai .v (ai .v (ai .v (ai .v (ai .v (ai .v (ai .v (ai .v (ai .v (ai .v (ai .v (ai .v (ai .v (ai .v (ai .v (ai .v (ai .v (ai .v (ai .v (ai .v (ai .v (ai .v (ai .v (ai .v (ai .v (ai .v (ai .v (ai .v (ai .v (ai .v (ai .sl (ai .v (ai .v (ai .v (ai .v (ai .v (ai .v (ai .v (ai .v (ai .v (ai (.fn rfl am rfl am) (ai (aq (id:=(1,9)) (id':=(1,9)) rfl rfl) (ai (aq (id:=(2,9)) (id':=(2,9)) rfl rfl) (ai .v (ai .v (ai .v (ai (aq (id:=(3,9)) (id':=(3,9)) rfl rfl) (ai .v (ai .v (ai .v (ai .v am))))))))))))))))))))))))))))))))))))))))))))))))))))))))))))))))⟩,rfl⟩,⟨rfl,⟨_,rfl, .rowE rfl⟩,rfl⟩,⟨rfl,⟨_,rfl, .rowE rfl⟩,rfl⟩,⟨rfl,⟨_,rfl, .rowE rfl⟩,rfl⟩,trivial⟩ ⟨rfl,rfl,rfl,rfl,trivial⟩ ⟨rfl,rfl,rfl,rfl,trivial⟩ rfl ae ae) ?_
  · repeat' (first | exact aD | refine aB ?_ ?_ | exact Lv.v | exact aF (by assumption) | exact aF ab | exact Lv.sl | exact Lv.fp | exact Lv.nil | exact aq rfl rfl | exact aP rfl | refine Lv.agg rfl ?_ | refine Lv.fn rfl ?_ rfl ?_ | refine Lv.ifc ?_ | exact am | refine ai ?_ ?_)
  refine aj (au _ bI) ?_
  refine bj (Le.incT (10,0) rfl) ?_
  refine aj (aH aa [((3,9),(8,0)),((3,8),(10,0))] ?_ (h2x) ⟨⟨rfl,⟨_,rfl, .box ag (ai .sl (ai .v (ai .v (ai .v (ai .v (ai .v (ai .v (ai .v (ai .v (ai .v (ai .v (ai .v (ai .v (ai .v (ai .v (ai .v (ai .v (ai .v (ai .v (ai .v (ai .v (ai .v (ai .v (ai .v (ai .v (ai .v (ai .v (ai .v (ai .v (ai .v (ai .v (ai .v (ai .v (ai .v (ai .v (ai .v (ai .v (ai .v (ai .v (ai .v (ai .v (ai .v (ai .v (ai .sl (ai .v (ai .v (ai .v (ai .v (ai .v (ai .v (ai .v (ai .v (ai .v (ai (.fn rfl am rfl am) (ai (aq (id:=(1,9)) (id':=(1,9)) rfl rfl) (ai (aq (id:=(2,9)) (id':=(2,9)) rfl rfl) (ai .v (ai .v (ai .v (ai (aq (id:=(3,9)) (id':=(8,0)) rfl rfl) (ai .v (ai .v (ai .v (ai .v am))))))))))))))))))))))))))))))))))))))))))))))))))))))))))))))))⟩,rfl⟩,⟨rfl,⟨_,rfl, .rowE rfl⟩,rfl⟩,⟨rfl,⟨_,rfl, .rowE rfl⟩,rfl⟩,⟨rfl,⟨_,rfl, .rowE rfl⟩,rfl⟩,trivial⟩ ⟨rfl,rfl,rfl,rfl,trivial⟩ ⟨rfl,rfl,rfl,rfl,trivial⟩ rfl ae ae) ?_
  · repeat' (first | exact aD | refine aB ?_ ?_ | exact Lv.v | exact aF (by assumption) | exact aF ab | exact Lv.sl | exact Lv.fp | exact Lv.nil | exact aq rfl rfl | exact aP rfl | refine Lv.agg rfl ?_ | refine Lv.fn rfl ?_ rfl ?_ | refine Lv.ifc ?_ | exact am | refine ai ?_ ?_)
  refine aj (au _ bI) ?_
  refine bj (Le.incT (12,0) rfl) ?_
  refine aj (aH aa [((3,9),(10,0)),((3,8),(12,0))] ?_ (h3x) ⟨⟨rfl,⟨_,rfl, .box ag (ai .sl (ai .v (ai .v (ai .v (ai .v (ai .v (ai .v (ai .v (ai .v (ai .v (ai .v (ai .v (ai .v (ai .v (ai .v (ai .v (ai .v (ai .v (ai .v (ai .v (ai .v (ai .v (ai .v (ai .v (ai .v (ai .v (ai .v (ai .v (ai .v (ai .v (ai .v (ai .v (ai .v (ai .v (ai .v (ai .v (ai .v (ai .v (ai .v (ai .v (ai .v (ai .v (ai .v (ai .sl (ai .v (ai .v (ai .v (ai .v (ai .v (ai .v (ai .v (ai .v (ai .v (ai (.fn rfl am rfl am) (ai (aq (id:=(1,9)) (id':=(1,9)) rfl rfl) (ai (aq (id:=(2,9)) (id':=(2,9)) rfl rfl) (ai .v (ai .v (ai .v (ai (aq (id:=(3,9)) (id':=(10,0)) rfl rfl) (ai .v (ai .v (ai .v (ai .v am))))))))))))))))))))))))))))))))))))))))))))))))))))))))))))))))⟩,rfl⟩,⟨rfl,⟨_,rfl, .rowE rfl⟩,rfl⟩,⟨rfl,⟨_,rfl, .rowE rfl⟩,rfl⟩,⟨rfl,⟨_,rfl, .rowE rfl⟩,rfl⟩,trivial⟩ ⟨rfl,rfl,rfl,rfl,trivial⟩ ⟨rfl,rfl,rfl,rfl,trivial⟩ rfl ae ae) ?_
  · repeat' (first | exact aD | refine aB ?_ ?_ | exact Lv.v | exact aF (by assumption) | exact aF ab | exact Lv.sl | exact Lv.fp | exact Lv.nil | exact aq rfl rfl | exact aP rfl | refine Lv.agg rfl ?_ | refine Lv.fn rfl ?_ rfl ?_ | refine Lv.ifc ?_ | exact am | refine ai ?_ ?_)
  refine aj (aM _ bc) ?_
  refine aj (aM _ bc) ?_
  refine aj (aM _ bc) ?_
  refine ap (hK1 _ ?_)
  clear hK1;try clear K1
  refine ay fun K2 hK2=> ?_
  refine an ?_
  refine aj (au _ bc) ?_
  refine aj (eQ (r:=true) _ _ rfl rfl (decide_eq_true ab)) ?_
  refine aj (au _ dh) ?_
  refine aL rfl rfl (au _ bc) ?_
  refine aL rfl rfl (au _ bI) ?_
  refine aL rfl rfl (aR _ rfl rfl) ?_
  first
    | refine aL rfl rfl (aA _ aa rfl rfl rfl) ?_
    | refine aL rfl rfl (aC _ aa rfl rfl) ?_
  first
    | refine aL rfl rfl (aA _ aa rfl rfl rfl) ?_
    | refine aL rfl rfl (aC _ aa rfl rfl) ?_
  refine aL rfl rfl (em _ _ aa rfl rfl rfl 1 rfl ab (by first | exact (Nat.zero_add _).trans (Nat.mul_one _) | exact Nat.zero_add _ | rfl | omega)) ?_
  first
    | refine aL rfl rfl (aK _ aa rfl rfl gg) ?_
    | refine aL rfl rfl (aN _ aa rfl rfl (by first | rfl | exact ax _ _ ab | exact aG _ _ ab | assumption | exact ax _ _ ab) rfl) ?_
  refine aL rfl rfl (bo (r:=true) _ _ rfl rfl (decide_eq_true ab)) ?_
  refine aj (bB _ _ _ rfl dh) ?_
  refine aj (au _ dh) ?_
  refine aL rfl rfl (au _ bI) ?_
  refine aL rfl rfl (aR _ rfl rfl) ?_
  first
    | refine aL rfl rfl (aA _ aa rfl rfl rfl) ?_
    | refine aL rfl rfl (aC _ aa rfl rfl) ?_
  first
    | refine aL rfl rfl (aK _ aa rfl rfl gg) ?_
    | refine aL rfl rfl (aN _ aa rfl rfl (by first | rfl | exact ax _ _ ab | exact aG _ _ ab | assumption | exact ax _ _ ab) rfl) ?_
  refine aL rfl rfl (bo (r:=true) _ _ rfl rfl (decide_eq_true ab)) ?_
  refine aj (bB _ _ _ rfl dh) ?_
  refine ap (hK2 _ ?_)
  clear hK2;try clear K2
  refine gH rfl rfl ?_
  refine ay fun K3 hK3=> ?_
  refine bP (σ':=bC 45 [(0,_),(1,_),(4,_),(5,_),(6,_)] [((0,9),_),((1,9),_),((2,9),_),((12,0),_)] [(0,9),(1,9),(2,9),(12,0)] [(0,9),(1,9)]) (by
    refine Le.mkJ [] [] rfl ?_ ?_ trivial ⟨rfl,rfl,trivial⟩ ?_
    · exact ⟨(iP rfl),(iV rfl),(iV rfl),(iV rfl),(iV rfl),trivial⟩
    · exact ⟨(bn rfl rfl rfl),(bn rfl rfl rfl),(bn rfl rfl rfl),(bn rfl rfl rfl),trivial⟩
    kernel_rfl) ?_
  refine an ?_
  refine aj (au _ bI) ?_
  refine aj (aR _ rfl rfl) ?_
  first
    | refine aj (aA _ aa rfl rfl rfl) ?_
    | refine aj (aC _ aa rfl rfl) ?_
  first
    | refine aj (aK _ aa rfl rfl gg) ?_
    | refine aj (aN _ aa rfl rfl (by first | rfl | exact ax _ _ ab | exact aG _ _ ab | assumption | exact ax _ _ ab) rfl) ?_
  refine aj (bA (r:=se+1) _ _ rfl rfl (dH ab)) ?_
  refine aj (aR _ rfl rfl) ?_
  first
    | refine aj (aA _ aa rfl rfl rfl) ?_
    | refine aj (aC _ aa rfl rfl) ?_
  refine aj (aT _ _ aa rfl rfl rfl rfl (Nat.le_of_ble_eq_true rfl) rfl) ?_
  refine ap (hK3 _ ?_)
  clear hK3;try clear K3
  refine an ?_
  refine aj (au _ bI) ?_
  refine aj (au _ bc) ?_
  refine aj (au _ bc) ?_
  refine aj (au _ bc) ?_
  refine aj (au _ bc) ?_
  refine bj (Le.incT (44,0) rfl) ?_
  refine aj (aH aa [((3,9),(12,0)),((2,8),(44,0))] ?_ (cz M { s with stack:=s.pop 3 } dr (se+1) 3 (s.top 2) n (s.top 1) (s.top 0) (by simp only;omega)) ⟨⟨rfl,⟨_,rfl, .box ag (ai .sl (ai .v (ai .v (ai .v (ai .v (ai .v (ai .v (ai .v (ai .v (ai .v (ai .v (ai .v (ai .v (ai .v (ai .v (ai .v (ai .v (ai .v (ai .v (ai .v (ai .v (ai .v (ai .v (ai .v (ai .v (ai .v (ai .v (ai .v (ai .v (ai .v (ai .v (ai .v (ai .v (ai .v (ai .v (ai .v (ai .v (ai .v (ai .v (ai .v (ai .v (ai .v (ai .v (ai .sl (ai .v (ai .v (ai .v (ai .v (ai .v (ai .v (ai .v (ai .v (ai .v (ai (.fn rfl am rfl am) (ai (aq (id:=(1,9)) (id':=(1,9)) rfl rfl) (ai (aq (id:=(2,9)) (id':=(2,9)) rfl rfl) (ai .v (ai .v (ai .v (ai (aq (id:=(3,9)) (id':=(12,0)) rfl rfl) (ai .v (ai .v (ai .v (ai .v am))))))))))))))))))))))))))))))))))))))))))))))))))))))))))))))))⟩,rfl⟩,⟨rfl,⟨_,rfl, .rowE rfl⟩,rfl⟩,⟨rfl,⟨_,rfl, .rowE rfl⟩,rfl⟩,⟨rfl,⟨_,rfl, .rowE rfl⟩,rfl⟩,trivial⟩ ⟨rfl,rfl,rfl,rfl,trivial⟩ ⟨rfl,rfl,rfl,rfl,trivial⟩ rfl ae ae) ?_
  · repeat' (first | exact aD | refine aB ?_ ?_ | exact Lv.v | exact aF (by assumption) | exact aF ab | exact Lv.sl | exact Lv.fp | exact Lv.nil | exact aq rfl rfl | exact aP rfl | refine Lv.agg rfl ?_ | refine Lv.fn rfl ?_ rfl ?_ | refine Lv.ifc ?_ | exact am | refine ai ?_ ?_)
  refine ap ?_
  exact cR (.inl rfl) rfl (Le.outI [((2,8),(44,0)),((3,8),(12,0))] [] (.tup rfl am) rfl rfl rfl trivial ⟨⟨rfl,⟨_,rfl, .box rfl (ai .sl (ai .v (ai .v (ai .v (ai .v (ai .v (ai .v (ai .v (ai .v (ai .v (ai .v (ai .v (ai .v (ai .v (ai .v (ai .v (ai .v (ai .v (ai .v (ai .v (ai .v (ai .v (ai .v (ai .v (ai .v (ai .v (ai .v (ai .v (ai .v (ai .v (ai .v (ai .v (ai .v (ai .v (ai .v (ai .v (ai .v (ai .v (ai .v (ai .v (ai .v (ai .v (ai .v (ai .sl (ai .v (ai .v (ai .v (ai .v (ai .v (ai .v (ai .v (ai .v (ai .v (ai (.fn rfl am rfl am) (ai (aq rfl rfl) (ai (aq rfl rfl) (ai .v (ai .v (ai .v (ai (aq rfl rfl) (ai .v (ai .v (ai .v (ai .v am))))))))))))))))))))))))))))))))))))))))))))))))))))))))))))))))⟩,rfl⟩,⟨rfl,⟨_,rfl, .rowE rfl⟩,rfl⟩,⟨rfl,⟨_,rfl, .rowE rfl⟩,rfl⟩,⟨rfl,⟨_,rfl, .rowE rfl⟩,rfl⟩,trivial⟩ ⟨rfl,rfl,trivial⟩ rfl)
theorem lX (n:Int) (hs:s.stack.length≤90000) (ha:s.acts.length≤90000) (h0:3≤s.stack.length) (hse: -100≤se) (h1:s.top 2 < 0):
    Spec Try.prog 56 (aZ [.ptr (0,9) 0, .v (.int .i64 n)] (eL M s dr se)) (aS (.tup []) (eH M { s with stack:=s.pop 3 } dr se (2,8) (3,8)) [(0,9),(1,9),(2,8),(3,8)] [(0,9),(1,9)]):=by
  have h2x:=aW M { s with stack:=s.pop 1 } dr se (by have:=bd s 1;simp only;omega) (by have:=bd s 1;simp only;omega)
  rw [bW s 0 1 ab,bY,Nat.zero_add] at h2x
  have h3x:=aW M { s with stack:=s.pop 2 } dr se (by have:=bd s 2;simp only;omega) (by have:=bd s 2;simp only;omega)
  rw [bW s 0 2 ab,bY,Nat.zero_add] at h3x
  refine Spec.ofNI Try.func56 rfl Try.ntmps56 rfl ?_
  refine ay fun K1 hK1=> ?_
  refine an ?_
  refine aj (au _ bI) ?_
  refine bj (Le.incT (8,0) rfl) ?_
  refine aj (aH aa [((3,8),(8,0))] ?_ (aW M s dr se ab ab) ⟨⟨rfl,⟨_,rfl, .box ag (ai .sl (ai .v (ai .v (ai .v (ai .v (ai .v (ai .v (ai .v (ai .v (ai .v (ai .v (ai .v (ai .v (ai .v (ai .v (ai .v (ai .v (ai .v (ai .v (ai .v (ai .v (ai .v (ai .v (ai .v (ai .v (ai .v (ai .v (ai .v (ai .v (ai .v (ai .v (ai .v (ai .v (ai .v (ai .v (ai .v (ai .v (ai .v (ai .v (ai .v (ai .v (ai .v (ai .v (ai .sl (ai .v (ai .v (ai .v (ai .v (ai .v (ai .v (ai .v (ai .v (ai .v (ai (.fn rfl am rfl am) (ai (aq (id:=(1,9)) (id':=(1,9)) rfl rfl) (ai (aq (id:=(2,9)) (id':=(2,9)) rfl rfl) (ai .v (ai .v (ai .v (ai (aq (id:=(3,9)) (id':=(3,9)) rfl rfl) (ai .v (ai .v (ai .v (ai .v am))))))))))))))))))))))))))))))))))))))))))))))))))))))))))))))))⟩,rfl⟩,⟨rfl,⟨_,rfl, .rowE rfl⟩,rfl⟩,⟨rfl,⟨_,rfl, .rowE rfl⟩,rfl⟩,⟨rfl,⟨_,rfl, .rowE rfl⟩,rfl⟩,trivial⟩ ⟨rfl,rfl,rfl,rfl,trivial⟩ ⟨rfl,rfl,rfl,rfl,trivial⟩ rfl ae ae) ?_
  · repeat' (first | exact aD | refine aB ?_ ?_ | exact Lv.v | exact aF (by assumption) | exact aF ab | exact Lv.sl | exact Lv.fp | exact Lv.nil | exact aq rfl rfl | exact aP rfl | refine Lv.agg rfl ?_ | refine Lv.fn rfl ?_ rfl ?_ | refine Lv.ifc ?_ | exact am | refine ai ?_ ?_)
  refine aj (au _ bI) ?_
  refine bj (Le.incT (10,0) rfl) ?_
  refine aj (aH aa [((3,9),(8,0)),((3,8),(10,0))] ?_ (h2x) ⟨⟨rfl,⟨_,rfl, .box ag (ai .sl (ai .v (ai .v (ai .v (ai .v (ai .v (ai .v (ai .v (ai .v (ai .v (ai .v (ai .v (ai .v (ai .v (ai .v (ai .v (ai .v (ai .v (ai .v (ai .v (ai .v (ai .v (ai .v (ai .v (ai .v (ai .v (ai .v (ai .v (ai .v (ai .v (ai .v (ai .v (ai .v (ai .v (ai .v (ai .v (ai .v (ai .v (ai .v (ai .v (ai .v (ai .v (ai .v (ai .sl (ai .v (ai .v (ai .v (ai .v (ai .v (ai .v (ai .v (ai .v (ai .v (ai (.fn rfl am rfl am) (ai (aq (id:=(1,9)) (id':=(1,9)) rfl rfl) (ai (aq (id:=(2,9)) (id':=(2,9)) rfl rfl) (ai .v (ai .v (ai .v (ai (aq (id:=(3,9)) (id':=(8,0)) rfl rfl) (ai .v (ai .v (ai .v (ai .v am))))))))))))))))))))))))))))))))))))))))))))))))))))))))))))))))⟩,rfl⟩,⟨rfl,⟨_,rfl, .rowE rfl⟩,rfl⟩,⟨rfl,⟨_,rfl, .rowE rfl⟩,rfl⟩,⟨rfl,⟨_,rfl, .rowE rfl⟩,rfl⟩,trivial⟩ ⟨rfl,rfl,rfl,rfl,trivial⟩ ⟨rfl,rfl,rfl,rfl,trivial⟩ rfl ae ae) ?_
  · repeat' (first | exact aD | refine aB ?_ ?_ | exact Lv.v | exact aF (by assumption) | exact aF ab | exact Lv.sl | exact Lv.fp | exact Lv.nil | exact aq rfl rfl | exact aP rfl | refine Lv.agg rfl ?_ | refine Lv.fn rfl ?_ rfl ?_ | refine Lv.ifc ?_ | exact am | refine ai ?_ ?_)
  refine aj (au _ bI) ?_
  refine bj (Le.incT (12,0) rfl) ?_
  refine aj (aH aa [((3,9),(10,0)),((3,8),(12,0))] ?_ (h3x) ⟨⟨rfl,⟨_,rfl, .box ag (ai .sl (ai .v (ai .v (ai .v (ai .v (ai .v (ai .v (ai .v (ai .v (ai .v (ai .v (ai .v (ai .v (ai .v (ai .v (ai .v (ai .v (ai .v (ai .v (ai .v (ai .v (ai .v (ai .v (ai .v (ai .v (ai .v (ai .v (ai .v (ai .v (ai .v (ai .v (ai .v (ai .v (ai .v (ai .v (ai .v (ai .v (ai .v (ai .v (ai .v (ai .v (ai .v (ai .v (ai .sl (ai .v (ai .v (ai .v (ai .v (ai .v (ai .v (ai .v (ai .v (ai .v (ai (.fn rfl am rfl am) (ai (aq (id:=(1,9)) (id':=(1,9)) rfl rfl) (ai (aq (id:=(2,9)) (id':=(2,9)) rfl rfl) (ai .v (ai .v (ai .v (ai (aq (id:=(3,9)) (id':=(10,0)) rfl rfl) (ai .v (ai .v (ai .v (ai .v am))))))))))))))))))))))))))))))))))))))))))))))))))))))))))))))))⟩,rfl⟩,⟨rfl,⟨_,rfl, .rowE rfl⟩,rfl⟩,⟨rfl,⟨_,rfl, .rowE rfl⟩,rfl⟩,⟨rfl,⟨_,rfl, .rowE rfl⟩,rfl⟩,trivial⟩ ⟨rfl,rfl,rfl,rfl,trivial⟩ ⟨rfl,rfl,rfl,rfl,trivial⟩ rfl ae ae) ?_
  · repeat' (first | exact aD | refine aB ?_ ?_ | exact Lv.v | exact aF (by assumption) | exact aF ab | exact Lv.sl | exact Lv.fp | exact Lv.nil | exact aq rfl rfl | exact aP rfl | refine Lv.agg rfl ?_ | refine Lv.fn rfl ?_ rfl ?_ | refine Lv.ifc ?_ | exact am | refine ai ?_ ?_)
  refine aj (aM _ bc) ?_
  refine aj (aM _ bc) ?_
  refine aj (aM _ bc) ?_
  refine ap (hK1 _ ?_)
  clear hK1;try clear K1
  refine ay fun K2 hK2=> ?_
  refine an ?_
  refine aj (au _ bc) ?_
  refine aj (eQ (r:=false) _ _ rfl rfl (decide_eq_false ab)) ?_
  refine aj (au _ dh) ?_
  refine bz rfl rfl ah ?_
  refine bz rfl rfl ah ?_
  refine bz rfl rfl ah ?_
  refine bz rfl rfl ah ?_
  refine bz rfl rfl ah ?_
  refine bz rfl rfl ah ?_
  refine bz rfl rfl ah ?_
  refine bz rfl rfl ah ?_
  refine aj (bB _ _ _ rfl dh) ?_
  refine aj (au _ dh) ?_
  refine bz rfl rfl ah ?_
  refine bz rfl rfl ah ?_
  refine bz rfl rfl ah ?_
  refine bz rfl rfl ah ?_
  refine bz rfl rfl ah ?_
  refine aj (bB _ _ _ rfl dh) ?_
  refine ap (hK2 _ ?_)
  clear hK2;try clear K2
  refine eE rfl rfl ?_
  refine bw ?_
  exact cR (.inl rfl) rfl (Le.outI [((2,8),(2,9)),((3,8),(12,0))] [] (.tup rfl am) rfl rfl rfl trivial ⟨⟨rfl,⟨_,rfl, .box rfl (ai .sl (ai .v (ai .v (ai .v (ai .v (ai .v (ai .v (ai .v (ai .v (ai .v (ai .v (ai .v (ai .v (ai .v (ai .v (ai .v (ai .v (ai .v (ai .v (ai .v (ai .v (ai .v (ai .v (ai .v (ai .v (ai .v (ai .v (ai .v (ai .v (ai .v (ai .v (ai .v (ai .v (ai .v (ai .v (ai .v (ai .v (ai .v (ai .v (ai .v (ai .v (ai .v (ai .v (ai .sl (ai .v (ai .v (ai .v (ai .v (ai .v (ai .v (ai .v (ai .v (ai .v (ai (.fn rfl am rfl am) (ai (aq rfl rfl) (ai (aq rfl rfl) (ai .v (ai .v (ai .v (ai (aq rfl rfl) (ai .v (ai .v (ai .v (ai .v am))))))))))))))))))))))))))))))))))))))))))))))))))))))))))))))))⟩,rfl⟩,⟨rfl,⟨_,rfl, .rowE rfl⟩,rfl⟩,⟨rfl,⟨_,rfl, .rowE rfl⟩,rfl⟩,⟨rfl,⟨_,rfl, .rowE rfl⟩,rfl⟩,trivial⟩ ⟨rfl,rfl,trivial⟩ rfl)
theorem lx (n:Int) (hs:s.stack.length≤90000) (ha:s.acts.length≤90000) (h0:3≤s.stack.length) (hse: -100≤se) (h1:0≤s.top 2) (h2:M.nm 1≤s.top 2):
    Spec Try.prog 56 (aZ [.ptr (0,9) 0, .v (.int .i64 n)] (eL M s dr se)) (aS (.tup []) (eH M { s with stack:=s.pop 3 } dr se (2,8) (3,8)) [(0,9),(1,9),(2,8),(3,8)] [(0,9),(1,9)]):=by
  have h2x:=aW M { s with stack:=s.pop 1 } dr se (by have:=bd s 1;simp only;omega) (by have:=bd s 1;simp only;omega)
  rw [bW s 0 1 ab,bY,Nat.zero_add] at h2x
  have h3x:=aW M { s with stack:=s.pop 2 } dr se (by have:=bd s 2;simp only;omega) (by have:=bd s 2;simp only;omega)
  rw [bW s 0 2 ab,bY,Nat.zero_add] at h3x
  refine Spec.ofNI Try.func56 rfl Try.ntmps56 rfl ?_
  refine ay fun K1 hK1=> ?_
  refine an ?_
  refine aj (au _ bI) ?_
  refine bj (Le.incT (8,0) rfl) ?_
  refine aj (aH aa [((3,8),(8,0))] ?_ (aW M s dr se ab ab) ⟨⟨rfl,⟨_,rfl, .box ag (ai .sl (ai .v (ai .v (ai .v (ai .v (ai .v (ai .v (ai .v (ai .v (ai .v (ai .v (ai .v (ai .v (ai .v (ai .v (ai .v (ai .v (ai .v (ai .v (ai .v (ai .v (ai .v (ai .v (ai .v (ai .v (ai .v (ai .v (ai .v (ai .v (ai .v (ai .v (ai .v (ai .v (ai .v (ai .v (ai .v (ai .v (ai .v (ai .v (ai .v (ai .v (ai .v (ai .v (ai .sl (ai .v (ai .v (ai .v (ai .v (ai .v (ai .v (ai .v (ai .v (ai .v (ai (.fn rfl am rfl am) (ai (aq (id:=(1,9)) (id':=(1,9)) rfl rfl) (ai (aq (id:=(2,9)) (id':=(2,9)) rfl rfl) (ai .v (ai .v (ai .v (ai (aq (id:=(3,9)) (id':=(3,9)) rfl rfl) (ai .v (ai .v (ai .v (ai .v am))))))))))))))))))))))))))))))))))))))))))))))))))))))))))))))))⟩,rfl⟩,⟨rfl,⟨_,rfl, .rowE rfl⟩,rfl⟩,⟨rfl,⟨_,rfl, .rowE rfl⟩,rfl⟩,⟨rfl,⟨_,rfl, .rowE rfl⟩,rfl⟩,trivial⟩ ⟨rfl,rfl,rfl,rfl,trivial⟩ ⟨rfl,rfl,rfl,rfl,trivial⟩ rfl ae ae) ?_
  · repeat' (first | exact aD | refine aB ?_ ?_ | exact Lv.v | exact aF (by assumption) | exact aF ab | exact Lv.sl | exact Lv.fp | exact Lv.nil | exact aq rfl rfl | exact aP rfl | refine Lv.agg rfl ?_ | refine Lv.fn rfl ?_ rfl ?_ | refine Lv.ifc ?_ | exact am | refine ai ?_ ?_)
  refine aj (au _ bI) ?_
  refine bj (Le.incT (10,0) rfl) ?_
  refine aj (aH aa [((3,9),(8,0)),((3,8),(10,0))] ?_ (h2x) ⟨⟨rfl,⟨_,rfl, .box ag (ai .sl (ai .v (ai .v (ai .v (ai .v (ai .v (ai .v (ai .v (ai .v (ai .v (ai .v (ai .v (ai .v (ai .v (ai .v (ai .v (ai .v (ai .v (ai .v (ai .v (ai .v (ai .v (ai .v (ai .v (ai .v (ai .v (ai .v (ai .v (ai .v (ai .v (ai .v (ai .v (ai .v (ai .v (ai .v (ai .v (ai .v (ai .v (ai .v (ai .v (ai .v (ai .v (ai .v (ai .sl (ai .v (ai .v (ai .v (ai .v (ai .v (ai .v (ai .v (ai .v (ai .v (ai (.fn rfl am rfl am) (ai (aq (id:=(1,9)) (id':=(1,9)) rfl rfl) (ai (aq (id:=(2,9)) (id':=(2,9)) rfl rfl) (ai .v (ai .v (ai .v (ai (aq (id:=(3,9)) (id':=(8,0)) rfl rfl) (ai .v (ai .v (ai .v (ai .v am))))))))))))))))))))))))))))))))))))))))))))))))))))))))))))))))⟩,rfl⟩,⟨rfl,⟨_,rfl, .rowE rfl⟩,rfl⟩,⟨rfl,⟨_,rfl, .rowE rfl⟩,rfl⟩,⟨rfl,⟨_,rfl, .rowE rfl⟩,rfl⟩,trivial⟩ ⟨rfl,rfl,rfl,rfl,trivial⟩ ⟨rfl,rfl,rfl,rfl,trivial⟩ rfl ae ae) ?_
  · repeat' (first | exact aD | refine aB ?_ ?_ | exact Lv.v | exact aF (by assumption) | exact aF ab | exact Lv.sl | exact Lv.fp | exact Lv.nil | exact aq rfl rfl | exact aP rfl | refine Lv.agg rfl ?_ | refine Lv.fn rfl ?_ rfl ?_ | refine Lv.ifc ?_ | exact am | refine ai ?_ ?_)
  refine aj (au _ bI) ?_
  refine bj (Le.incT (12,0) rfl) ?_
  refine aj (aH aa [((3,9),(10,0)),((3,8),(12,0))] ?_ (h3x) ⟨⟨rfl,⟨_,rfl, .box ag (ai .sl (ai .v (ai .v (ai .v (ai .v (ai .v (ai .v (ai .v (ai .v (ai .v (ai .v (ai .v (ai .v (ai .v (ai .v (ai .v (ai .v (ai .v (ai .v (ai .v (ai .v (ai .v (ai .v (ai .v (ai .v (ai .v (ai .v (ai .v (ai .v (ai .v (ai .v (ai .v (ai .v (ai .v (ai .v (ai .v (ai .v (ai .v (ai .v (ai .v (ai .v (ai .v (ai .v (ai .sl (ai .v (ai .v (ai .v (ai .v (ai .v (ai .v (ai .v (ai .v (ai .v (ai (.fn rfl am rfl am) (ai (aq (id:=(1,9)) (id':=(1,9)) rfl rfl) (ai (aq (id:=(2,9)) (id':=(2,9)) rfl rfl) (ai .v (ai .v (ai .v (ai (aq (id:=(3,9)) (id':=(10,0)) rfl rfl) (ai .v (ai .v (ai .v (ai .v am))))))))))))))))))))))))))))))))))))))))))))))))))))))))))))))))⟩,rfl⟩,⟨rfl,⟨_,rfl, .rowE rfl⟩,rfl⟩,⟨rfl,⟨_,rfl, .rowE rfl⟩,rfl⟩,⟨rfl,⟨_,rfl, .rowE rfl⟩,rfl⟩,trivial⟩ ⟨rfl,rfl,rfl,rfl,trivial⟩ ⟨rfl,rfl,rfl,rfl,trivial⟩ rfl ae ae) ?_
  · repeat' (first | exact aD | refine aB ?_ ?_ | exact Lv.v | exact aF (by assumption) | exact aF ab | exact Lv.sl | exact Lv.fp | exact Lv.nil | exact aq rfl rfl | exact aP rfl | refine Lv.agg rfl ?_ | refine Lv.fn rfl ?_ rfl ?_ | refine Lv.ifc ?_ | exact am | refine ai ?_ ?_)
  refine aj (aM _ bc) ?_
  refine aj (aM _ bc) ?_
  refine aj (aM _ bc) ?_
  refine ap (hK1 _ ?_)
  clear hK1;try clear K1
  refine ay fun K2 hK2=> ?_
  refine an ?_
  refine aj (au _ bc) ?_
  refine aj (eQ (r:=true) _ _ rfl rfl (decide_eq_true ab)) ?_
  refine aj (au _ dh) ?_
  refine aL rfl rfl (au _ bc) ?_
  refine aL rfl rfl (au _ bI) ?_
  refine aL rfl rfl (aR _ rfl rfl) ?_
  first
    | refine aL rfl rfl (aA _ aa rfl rfl rfl) ?_
    | refine aL rfl rfl (aC _ aa rfl rfl) ?_
  first
    | refine aL rfl rfl (aA _ aa rfl rfl rfl) ?_
    | refine aL rfl rfl (aC _ aa rfl rfl) ?_
  refine aL rfl rfl (em _ _ aa rfl rfl rfl 1 rfl ab (by first | exact (Nat.zero_add _).trans (Nat.mul_one _) | exact Nat.zero_add _ | rfl | omega)) ?_
  first
    | refine aL rfl rfl (aK _ aa rfl rfl gg) ?_
    | refine aL rfl rfl (aN _ aa rfl rfl (by first | rfl | exact ax _ _ ab | exact aG _ _ ab | assumption | exact ax _ _ ab) rfl) ?_
  refine aL rfl rfl (bo (r:=false) _ _ rfl rfl (decide_eq_false ab)) ?_
  refine aj (bB _ _ _ rfl dh) ?_
  refine aj (au _ dh) ?_
  refine bz rfl rfl ah ?_
  refine bz rfl rfl ah ?_
  refine bz rfl rfl ah ?_
  refine bz rfl rfl ah ?_
  refine bz rfl rfl ah ?_
  refine aj (bB _ _ _ rfl dh) ?_
  refine ap (hK2 _ ?_)
  clear hK2;try clear K2
  refine eE rfl rfl ?_
  refine bw ?_
  exact cR (.inl rfl) rfl (Le.outI [((2,8),(2,9)),((3,8),(12,0))] [] (.tup rfl am) rfl rfl rfl trivial ⟨⟨rfl,⟨_,rfl, .box rfl (ai .sl (ai .v (ai .v (ai .v (ai .v (ai .v (ai .v (ai .v (ai .v (ai .v (ai .v (ai .v (ai .v (ai .v (ai .v (ai .v (ai .v (ai .v (ai .v (ai .v (ai .v (ai .v (ai .v (ai .v (ai .v (ai .v (ai .v (ai .v (ai .v (ai .v (ai .v (ai .v (ai .v (ai .v (ai .v (ai .v (ai .v (ai .v (ai .v (ai .v (ai .v (ai .v (ai .v (ai .sl (ai .v (ai .v (ai .v (ai .v (ai .v (ai .v (ai .v (ai .v (ai .v (ai (.fn rfl am rfl am) (ai (aq rfl rfl) (ai (aq rfl rfl) (ai .v (ai .v (ai .v (ai (aq rfl rfl) (ai .v (ai .v (ai .v (ai .v am))))))))))))))))))))))))))))))))))))))))))))))))))))))))))))))))⟩,rfl⟩,⟨rfl,⟨_,rfl, .rowE rfl⟩,rfl⟩,⟨rfl,⟨_,rfl, .rowE rfl⟩,rfl⟩,⟨rfl,⟨_,rfl, .rowE rfl⟩,rfl⟩,trivial⟩ ⟨rfl,rfl,trivial⟩ rfl)
theorem kU (n:Int) (hs:s.stack.length≤90000) (ha:s.acts.length≤90000) (h0:3≤s.stack.length) (hse: -100≤se) (h1:0≤s.top 2) (h2:s.top 2 < M.nm 1) (h3:20≤se):
    Spec Try.prog 56 (aZ [.ptr (0,9) 0, .v (.int .i64 n)] (eL M s dr se)) (aS (.tup []) (eH M { s with stack:=s.pop 3 } dr se (2,8) (3,8)) [(0,9),(1,9),(2,8),(3,8)] [(0,9),(1,9)]):=by
  have h2x:=aW M { s with stack:=s.pop 1 } dr se (by have:=bd s 1;simp only;omega) (by have:=bd s 1;simp only;omega)
  rw [bW s 0 1 ab,bY,Nat.zero_add] at h2x
  have h3x:=aW M { s with stack:=s.pop 2 } dr se (by have:=bd s 2;simp only;omega) (by have:=bd s 2;simp only;omega)
  rw [bW s 0 2 ab,bY,Nat.zero_add] at h3x
  refine Spec.ofNI Try.func56 rfl Try.ntmps56 rfl ?_
  refine ay fun K1 hK1=> ?_
  refine an ?_
  refine aj (au _ bI) ?_
  refine bj (Le.incT (8,0) rfl) ?_
  refine aj (aH aa [((3,8),(8,0))] ?_ (aW M s dr se ab ab) ⟨⟨rfl,⟨_,rfl, .box ag (ai .sl (ai .v (ai .v (ai .v (ai .v (ai .v (ai .v (ai .v (ai .v (ai .v (ai .v (ai .v (ai .v (ai .v (ai .v (ai .v (ai .v (ai .v (ai .v (ai .v (ai .v (ai .v (ai .v (ai .v (ai .v (ai .v (ai .v (ai .v (ai .v (ai .v (ai .v (ai .v (ai .v (ai .v (ai .v (ai .v (ai .v (ai .v (ai .v (ai .v (ai .v (ai .v (ai .v (ai .sl (ai .v (ai .v (ai .v (ai .v (ai .v (ai .v (ai .v (ai .v (ai .v (ai (.fn rfl am rfl am) (ai (aq (id:=(1,9)) (id':=(1,9)) rfl rfl) (ai (aq (id:=(2,9)) (id':=(2,9)) rfl rfl) (ai .v (ai .v (ai .v (ai (aq (id:=(3,9)) (id':=(3,9)) rfl rfl) (ai .v (ai .v (ai .v (ai .v am))))))))))))))))))))))))))))))))))))))))))))))))))))))))))))))))⟩,rfl⟩,⟨rfl,⟨_,rfl, .rowE rfl⟩,rfl⟩,⟨rfl,⟨_,rfl, .rowE rfl⟩,rfl⟩,⟨rfl,⟨_,rfl, .rowE rfl⟩,rfl⟩,trivial⟩ ⟨rfl,rfl,rfl,rfl,trivial⟩ ⟨rfl,rfl,rfl,rfl,trivial⟩ rfl ae ae) ?_
  · repeat' (first | exact aD | refine aB ?_ ?_ | exact Lv.v | exact aF (by assumption) | exact aF ab | exact Lv.sl | exact Lv.fp | exact Lv.nil | exact aq rfl rfl | exact aP rfl | refine Lv.agg rfl ?_ | refine Lv.fn rfl ?_ rfl ?_ | refine Lv.ifc ?_ | exact am | refine ai ?_ ?_)
  refine aj (au _ bI) ?_
  refine bj (Le.incT (10,0) rfl) ?_
  refine aj (aH aa [((3,9),(8,0)),((3,8),(10,0))] ?_ (h2x) ⟨⟨rfl,⟨_,rfl, .box ag (ai .sl (ai .v (ai .v (ai .v (ai .v (ai .v (ai .v (ai .v (ai .v (ai .v (ai .v (ai .v (ai .v (ai .v (ai .v (ai .v (ai .v (ai .v (ai .v (ai .v (ai .v (ai .v (ai .v (ai .v (ai .v (ai .v (ai .v (ai .v (ai .v (ai .v (ai .v (ai .v (ai .v (ai .v (ai .v (ai .v (ai .v (ai .v (ai .v (ai .v (ai .v (ai .v (ai .v (ai .sl (ai .v (ai .v (ai .v (ai .v (ai .v (ai .v (ai .v (ai .v (ai .v (ai (.fn rfl am rfl am) (ai (aq (id:=(1,9)) (id':=(1,9)) rfl rfl) (ai (aq (id:=(2,9)) (id':=(2,9)) rfl rfl) (ai .v (ai .v (ai .v (ai (aq (id:=(3,9)) (id':=(8,0)) rfl rfl) (ai .v (ai .v (ai .v (ai .v am))))))))))))))))))))))))))))))))))))))))))))))))))))))))))))))))⟩,rfl⟩,⟨rfl,⟨_,rfl, .rowE rfl⟩,rfl⟩,⟨rfl,⟨_,rfl, .rowE rfl⟩,rfl⟩,⟨rfl,⟨_,rfl, .rowE rfl⟩,rfl⟩,trivial⟩ ⟨rfl,rfl,rfl,rfl,trivial⟩ ⟨rfl,rfl,rfl,rfl,trivial⟩ rfl ae ae) ?_
  · repeat' (first | exact aD | refine aB ?_ ?_ | exact Lv.v | exact aF (by assumption) | exact aF ab | exact Lv.sl | exact Lv.fp | exact Lv.nil | exact aq rfl rfl | exact aP rfl | refine Lv.agg rfl ?_ | refine Lv.fn rfl ?_ rfl ?_ | refine Lv.ifc ?_ | exact am | refine ai ?_ ?_)
  refine aj (au _ bI) ?_
  refine bj (Le.incT (12,0) rfl) ?_
  refine aj (aH aa [((3,9),(10,0)),((3,8),(12,0))] ?_ (h3x) ⟨⟨rfl,⟨_,rfl, .box ag (ai .sl (ai .v (ai .v (ai .v (ai .v (ai .v (ai .v (ai .v (ai .v (ai .v (ai .v (ai .v (ai .v (ai .v (ai .v (ai .v (ai .v (ai .v (ai .v (ai .v (ai .v (ai .v (ai .v (ai .v (ai .v (ai .v (ai .v (ai .v (ai .v (ai .v (ai .v (ai .v (ai .v (ai .v (ai .v (ai .v (ai .v (ai .v (ai .v (ai .v (ai .v (ai .v (ai .v (ai .sl (ai .v (ai .v (ai .v (ai .v (ai .v (ai .v (ai .v (ai .v (ai .v (ai (.fn rfl am rfl am) (ai (aq (id:=(1,9)) (id':=(1,9)) rfl rfl) (ai (aq (id:=(2,9)) (id':=(2,9)) rfl rfl) (ai .v (ai .v (ai .v (ai (aq (id:=(3,9)) (id':=(10,0)) rfl rfl) (ai .v (ai .v (ai .v (ai .v am))))))))))))))))))))))))))))))))))))))))))))))))))))))))))))))))⟩,rfl⟩,⟨rfl,⟨_,rfl, .rowE rfl⟩,rfl⟩,⟨rfl,⟨_,rfl, .rowE rfl⟩,rfl⟩,⟨rfl,⟨_,rfl, .rowE rfl⟩,rfl⟩,trivial⟩ ⟨rfl,rfl,rfl,rfl,trivial⟩ ⟨rfl,rfl,rfl,rfl,trivial⟩ rfl ae ae) ?_
  · repeat' (first | exact aD | refine aB ?_ ?_ | exact Lv.v | exact aF (by assumption) | exact aF ab | exact Lv.sl | exact Lv.fp | exact Lv.nil | exact aq rfl rfl | exact aP rfl | refine Lv.agg rfl ?_ | refine Lv.fn rfl ?_ rfl ?_ | refine Lv.ifc ?_ | exact am | refine ai ?_ ?_)
  refine aj (aM _ bc) ?_
  refine aj (aM _ bc) ?_
  refine aj (aM _ bc) ?_
  refine ap (hK1 _ ?_)
  clear hK1;try clear K1
  refine ay fun K2 hK2=> ?_
  refine an ?_
  refine aj (au _ bc) ?_
  refine aj (eQ (r:=true) _ _ rfl rfl (decide_eq_true ab)) ?_
  refine aj (au _ dh) ?_
  refine aL rfl rfl (au _ bc) ?_
  refine aL rfl rfl (au _ bI) ?_
  refine aL rfl rfl (aR _ rfl rfl) ?_
  first
    | refine aL rfl rfl (aA _ aa rfl rfl rfl) ?_
    | refine aL rfl rfl (aC _ aa rfl rfl) ?_
  first
    | refine aL rfl rfl (aA _ aa rfl rfl rfl) ?_
    | refine aL rfl rfl (aC _ aa rfl rfl) ?_
  refine aL rfl rfl (em _ _ aa rfl rfl rfl 1 rfl ab (by first | exact (Nat.zero_add _).trans (Nat.mul_one _) | exact Nat.zero_add _ | rfl | omega)) ?_
  first
    | refine aL rfl rfl (aK _ aa rfl rfl gg) ?_
    | refine aL rfl rfl (aN _ aa rfl rfl (by first | rfl | exact ax _ _ ab | exact aG _ _ ab | assumption | exact ax _ _ ab) rfl) ?_
  refine aL rfl rfl (bo (r:=true) _ _ rfl rfl (decide_eq_true ab)) ?_
  refine aj (bB _ _ _ rfl dh) ?_
  refine aj (au _ dh) ?_
  refine aL rfl rfl (au _ bI) ?_
  refine aL rfl rfl (aR _ rfl rfl) ?_
  first
    | refine aL rfl rfl (aA _ aa rfl rfl rfl) ?_
    | refine aL rfl rfl (aC _ aa rfl rfl) ?_
  first
    | refine aL rfl rfl (aK _ aa rfl rfl gg) ?_
    | refine aL rfl rfl (aN _ aa rfl rfl (by first | rfl | exact ax _ _ ab | exact aG _ _ ab | assumption | exact ax _ _ ab) rfl) ?_
  refine aL rfl rfl (bo (r:=false) _ _ rfl rfl (decide_eq_false ab)) ?_
  refine aj (bB _ _ _ rfl dh) ?_
  refine ap (hK2 _ ?_)
  clear hK2;try clear K2
  refine eE rfl rfl ?_
  refine bw ?_
  exact cR (.inl rfl) rfl (Le.outI [((2,8),(2,9)),((3,8),(12,0))] [] (.tup rfl am) rfl rfl rfl trivial ⟨⟨rfl,⟨_,rfl, .box rfl (ai .sl (ai .v (ai .v (ai .v (ai .v (ai .v (ai .v (ai .v (ai .v (ai .v (ai .v (ai .v (ai .v (ai .v (ai .v (ai .v (ai .v (ai .v (ai .v (ai .v (ai .v (ai .v (ai .v (ai .v (ai .v (ai .v (ai .v (ai .v (ai .v (ai .v (ai .v (ai .v (ai .v (ai .v (ai .v (ai .v (ai .v (ai .v (ai .v (ai .v (ai .v (ai .v (ai .v (ai .sl (ai .v (ai .v (ai .v (ai .v (ai .v (ai .v (ai .v (ai .v (ai .v (ai (.fn rfl am rfl am) (ai (aq rfl rfl) (ai (aq rfl rfl) (ai .v (ai .v (ai .v (ai (aq rfl rfl) (ai .v (ai .v (ai .v (ai .v am))))))))))))))))))))))))))))))))))))))))))))))))))))))))))))))))⟩,rfl⟩,⟨rfl,⟨_,rfl, .rowE rfl⟩,rfl⟩,⟨rfl,⟨_,rfl, .rowE rfl⟩,rfl⟩,⟨rfl,⟨_,rfl, .rowE rfl⟩,rfl⟩,trivial⟩ ⟨rfl,rfl,trivial⟩ rfl)
theorem ln (i k:Int):Spec Try.prog 17 (bq [.v (.int .i64 i), .v (.int .i64 k)] []) (aX (.v (.int .i64 0)) []):=by
  refine Spec.ofN Try.func17 rfl Try.ntmps17 rfl ?_
  refine ay fun K1 hK1=> ?_
  refine an ?_
  refine aj (aM _ bc) ?_
  refine ap (hK1 _ ?_)
  clear hK1;try clear K1
  refine ay fun K2 hK2=> ?_
  refine an ?_
  refine aj (aM _ bc) ?_
  refine ap (hK2 _ ?_)
  clear hK2;try clear K2
  refine br ?_
  exact km rfl rfl
end

theorem pA (v k:Int) (hk:1≤k): -k < v.tmod k∧v.tmod k < k∧(v.tmod k+k).tmod k=v % k:=by
  have h1:v.tmod k < k:=Int.tmod_lt_of_pos v ab
  have h2: -k < v.tmod k:=by
    have:=Int.tmod_lt_of_pos (-v) (show 0 < k by omega)
    rw [Int.neg_tmod] at this;omega
  refine ⟨h2,h1,?_⟩
  rw [Int.tmod_eq_emod_of_nonneg ab,Int.add_emod_right,Int.tmod_def,Int.sub_mul_emod_self_left]
section
variable (M:Mk) (s:Ms) (dr se:Int)
theorem oU (hs:s.stack.length≤90000) (h0:0 < s.stack.length) (hk:max 1 (min (s.top 0) 4)=1):
    Spec Try.prog 42 (aZ [.ptr (0,9) 0] (eL M s (s.asked.length:Int) se)) (aS (.v (.int .i64 0)) (eH M { s with stack:=s.pop 1 } (s.asked.length:Int) se (2,9) (3,8)) [(0,9),(1,9),(2,9),(3,8)] [(0,9),(1,9),(2,9)]):=by
  have hc:=eV (s.top 0) 1 4
  rw [hk] at hc
  refine Spec.ofNI Try.func42 rfl Try.ntmps42 rfl ?_
  refine ay fun K1 hK1=> ?_
  refine an ?_
  refine aj (aM _ bc) ?_
  refine ap (hK1 _ ?_)
  clear hK1;try clear K1
  refine ay fun K2 hK2=> ?_
  refine an ?_
  refine aj (au _ bI) ?_
  refine bj (Le.incT (6,0) rfl) ?_
  refine aj (aH aa [((3,8),(6,0))] ?_ (aW M s (s.asked.length:Int) se ab h0) ⟨⟨rfl,⟨_,rfl, .box ag (ai .sl (ai .v (ai .v (ai .v (ai .v (ai .v (ai .v (ai .v (ai .v (ai .v (ai .v (ai .v (ai .v (ai .v (ai .v (ai .v (ai .v (ai .v (ai .v (ai .v (ai .v (ai .v (ai .v (ai .v (ai .v (ai .v (ai .v (ai .v (ai .v (ai .v (ai .v (ai .v (ai .v (ai .v (ai .v (ai .v (ai .v (ai .v (ai .v (ai .v (ai .v (ai .v (ai .v (ai .sl (ai .v (ai .v (ai .v (ai .v (ai .v (ai .v (ai .v (ai .v (ai .v (ai (.fn rfl am rfl am) (ai (aq (id:=(1,9)) (id':=(1,9)) rfl rfl) (ai (aq (id:=(2,9)) (id':=(2,9)) rfl rfl) (ai .v (ai .v (ai .v (ai (aq (id:=(3,9)) (id':=(3,9)) rfl rfl) (ai .v (ai .v (ai .v (ai .v am))))))))))))))))))))))))))))))))))))))))))))))))))))))))))))))))⟩,rfl⟩,⟨rfl,⟨_,rfl, .rowE rfl⟩,rfl⟩,⟨rfl,⟨_,rfl, .rowE rfl⟩,rfl⟩,⟨rfl,⟨_,rfl, .rowE rfl⟩,rfl⟩,trivial⟩ ⟨rfl,rfl,rfl,rfl,trivial⟩ ⟨rfl,rfl,rfl,rfl,trivial⟩ rfl ae ae) ?_
  · repeat' (first | exact aD | refine aB ?_ ?_ | exact Lv.v | exact aF (by assumption) | exact aF ab | exact Lv.sl | exact Lv.fp | exact Lv.nil | exact aq rfl rfl | exact aP rfl | refine Lv.agg rfl ?_ | refine Lv.fn rfl ?_ rfl ?_ | refine Lv.ifc ?_ | exact am | refine ai ?_ ?_)
  refine aj (ba aa (by repeat' (first | exact aJ | refine aI ?_ ?_ | exact Lv.v | exact aF ab | exact Lv.sl | exact Lv.fp | exact Lv.nil | refine Lv.agg rfl ?_ | refine Lv.fn rfl ?_ rfl ?_ | exact am | refine ai ?_ ?_ | exact Lv.z0)) (hc) rfl rfl) ?_
  refine aj (aM _ bc) ?_
  refine ap (hK2 _ ?_)
  clear hK2;try clear K2
  refine ay fun K3 hK3=> ?_
  refine ay fun K4 hK4=> ?_
  refine an ?_
  refine aj (au _ bc) ?_
  refine aj (ca (r:=true) _ _ rfl rfl rfl) ?_
  refine ap (hK4 _ ?_)
  clear hK4;try clear K4
  refine gH rfl rfl ?_
  refine ay fun K5 hK5=> ?_
  refine an ?_
  refine aj (aM _ bc) ?_
  refine ap (hK5 _ ?_)
  clear hK5;try clear K5
  refine br ?_
  exact dk (.inr rfl) rfl (.tmp pd) (Le.outI [((3,8),(6,0))] [] .v rfl rfl rfl trivial ⟨⟨rfl,⟨_,rfl, .box rfl (ai .sl (ai .v (ai .v (ai .v (ai .v (ai .v (ai .v (ai .v (ai .v (ai .v (ai .v (ai .v (ai .v (ai .v (ai .v (ai .v (ai .v (ai .v (ai .v (ai .v (ai .v (ai .v (ai .v (ai .v (ai .v (ai .v (ai .v (ai .v (ai .v (ai .v (ai .v (ai .v (ai .v (ai .v (ai .v (ai .v (ai .v (ai .v (ai .v (ai .v (ai .v (ai .v (ai .v (ai .sl (ai .v (ai .v (ai .v (ai .v (ai .v (ai .v (ai .v (ai .v (ai .v (ai (.fn rfl am rfl am) (ai (aq rfl rfl) (ai (aq rfl rfl) (ai .v (ai .v (ai .v (ai (aq rfl rfl) (ai .v (ai .v (ai .v (ai .v am))))))))))))))))))))))))))))))))))))))))))))))))))))))))))))))))⟩,rfl⟩,⟨rfl,⟨_,rfl, .rowE rfl⟩,rfl⟩,⟨rfl,⟨_,rfl, .rowE rfl⟩,rfl⟩,⟨rfl,⟨_,rfl, .rowE rfl⟩,rfl⟩,trivial⟩ ⟨rfl,rfl,rfl,trivial⟩ rfl)
theorem nN (hs:s.stack.length≤90000) (h0:0 < s.stack.length) (hq:s.asked.length≤90000) (hn:M.ans=[]) {k:Int} (hk:max 1 (min (s.top 0) 4)=k) (hk1:k≠1):
    Spec Try.prog 42 (aZ [.ptr (0,9) 0] (eL M s (s.asked.length:Int) se)) (aS (.v (.int .i64 (fK M.ans s.asked.length k))) (eH M { s with stack:=s.pop 1,asked:=s.asked++[k] } ((s.asked++[k]).length:Int) se (2,9) (3,8)) [(0,9),(1,9),(2,9),(3,8)] [(0,9),(1,9),(2,9)]):=by
  have hk2:1≤k∧k≤4:=by omega
  have hc:=eV (s.top 0) 1 4
  rw [hk] at hc
  have hask:Spec Try.prog 17 (bq [.v (.int .i64 (s.asked.length:Int)), .v (.int .i64 k)] []) (aX (.v (.int .i64 (M.ans.getD s.asked.length 0))) []):=by rw [hn];exact ln _ _
  have htm:=pA (M.ans.getD s.asked.length 0) k hk2.1
  refine Spec.ofNI Try.func42 rfl Try.ntmps42 rfl ?_
  refine ay fun K1 hK1=> ?_
  refine an ?_
  refine aj (aM _ bc) ?_
  refine ap (hK1 _ ?_)
  clear hK1;try clear K1
  refine ay fun K2 hK2=> ?_
  refine an ?_
  refine aj (au _ bI) ?_
  refine bj (Le.incT (6,0) rfl) ?_
  refine aj (aH aa [((3,8),(6,0))] ?_ (aW M s (s.asked.length:Int) se ab h0) ⟨⟨rfl,⟨_,rfl, .box ag (ai .sl (ai .v (ai .v (ai .v (ai .v (ai .v (ai .v (ai .v (ai .v (ai .v (ai .v (ai .v (ai .v (ai .v (ai .v (ai .v (ai .v (ai .v (ai .v (ai .v (ai .v (ai .v (ai .v (ai .v (ai .v (ai .v (ai .v (ai .v (ai .v (ai .v (ai .v (ai .v (ai .v (ai .v (ai .v (ai .v (ai .v (ai .v (ai .v (ai .v (ai .v (ai .v (ai .v (ai .sl (ai .v (ai .v (ai .v (ai .v (ai .v (ai .v (ai .v (ai .v (ai .v (ai (.fn rfl am rfl am) (ai (aq (id:=(1,9)) (id':=(1,9)) rfl rfl) (ai (aq (id:=(2,9)) (id':=(2,9)) rfl rfl) (ai .v (ai .v (ai .v (ai (aq (id:=(3,9)) (id':=(3,9)) rfl rfl) (ai .v (ai .v (ai .v (ai .v am))))))))))))))))))))))))))))))))))))))))))))))))))))))))))))))))⟩,rfl⟩,⟨rfl,⟨_,rfl, .rowE rfl⟩,rfl⟩,⟨rfl,⟨_,rfl, .rowE rfl⟩,rfl⟩,⟨rfl,⟨_,rfl, .rowE rfl⟩,rfl⟩,trivial⟩ ⟨rfl,rfl,rfl,rfl,trivial⟩ ⟨rfl,rfl,rfl,rfl,trivial⟩ rfl ae ae) ?_
  · repeat' (first | exact aD | refine aB ?_ ?_ | exact Lv.v | exact aF (by assumption) | exact aF ab | exact Lv.sl | exact Lv.fp | exact Lv.nil | exact aq rfl rfl | exact aP rfl | refine Lv.agg rfl ?_ | refine Lv.fn rfl ?_ rfl ?_ | refine Lv.ifc ?_ | exact am | refine ai ?_ ?_)
  refine aj (ba aa (by repeat' (first | exact aJ | refine aI ?_ ?_ | exact Lv.v | exact aF ab | exact Lv.sl | exact Lv.fp | exact Lv.nil | refine Lv.agg rfl ?_ | refine Lv.fn rfl ?_ rfl ?_ | exact am | refine ai ?_ ?_ | exact Lv.z0)) (hc) rfl rfl) ?_
  refine aj (aM _ bc) ?_
  refine ap (hK2 _ ?_)
  clear hK2;try clear K2
  refine ay fun K3 hK3=> ?_
  refine ay fun K4 hK4=> ?_
  refine an ?_
  refine aj (au _ bc) ?_
  refine aj (ca (r:=false) _ _ rfl rfl (beq_eq_false_iff_ne.2 hk1)) ?_
  refine ap (hK4 _ ?_)
  clear hK4;try clear K4
  refine eE rfl rfl ?_
  refine bw (hK3 _ ?_)
  clear hK3;try clear K3
  refine ay fun K5 hK5=> ?_
  refine bP (σ':=bC 34 [(0,_),(3,_)] [((0,9),_),((1,9),_),((2,9),_),((6,0),_)] [(0,9),(1,9),(2,9),(6,0)] [(0,9),(1,9),(2,9)]) (by
    refine Le.mkJ [] [] rfl ?_ ?_ trivial ⟨rfl,rfl,rfl,trivial⟩ ?_
    · exact ⟨(iP rfl),(iV rfl),trivial⟩
    · exact ⟨(bn rfl rfl rfl),(bn rfl rfl rfl),(bn rfl rfl rfl),(bn rfl rfl rfl),trivial⟩
    kernel_rfl) ?_
  refine de 13 [10,11,12,13,14,15,16,17,18,19,20,21,4] [] ae ae rfl (aQ rfl) (rfl:_=[_,_,_,_,_,_,_,_,_,_,_,_,_]) (rfl:_=[]) ?_
  refine az (_,[]) (fun τ=> au _ bI) ?_
  refine aE (rfl:_=[_]) ?_
  refine az (_,[]) (fun τ=> aR _ rfl rfl) ?_
  refine aE (rfl:_=[_,_]) ?_
  first
    | refine az (_,[]) (fun τ=> aA _ aa rfl rfl rfl) ?_
    | refine az (_,[]) (fun τ=> aC _ aa rfl rfl) ?_
  refine aE (rfl:_=[_,_,_]) ?_
  first
    | refine az (_,[]) (fun τ=> aK _ aa rfl rfl (rfl:_=some (AV.fn _ _ _))) ?_
    | refine az (_,[]) (fun τ=> aN _ aa rfl rfl (by first | rfl | exact ax _ _ ab | exact aG _ _ ab | assumption | exact ax _ _ ab) rfl) ?_
  refine aE (rfl:_=[_,_,_,_]) ?_
  refine az (_,[]) (fun τ=> au _ bI) ?_
  refine aE (rfl:_=[_,_,_,_,_]) ?_
  refine az (_,[]) (fun τ=> aR _ rfl rfl) ?_
  refine aE (rfl:_=[_,_,_,_,_,_]) ?_
  first
    | refine az (_,[]) (fun τ=> aA _ aa rfl rfl rfl) ?_
    | refine az (_,[]) (fun τ=> aC _ aa rfl rfl) ?_
  refine aE (rfl:_=[_,_,_,_,_,_,_]) ?_
  first
    | refine az (_,[]) (fun τ=> aK _ aa rfl rfl gg) ?_
    | refine az (_,[]) (fun τ=> aN _ aa rfl rfl (by first | rfl | exact ax _ _ ab | exact aG _ _ ab | assumption | exact ax _ _ ab) rfl) ?_
  refine aE (rfl:_=[_,_,_,_,_,_,_,_]) ?_
  refine az (_,[]) (fun τ=> au _ bc) ?_
  refine aE (rfl:_=[_,_,_,_,_,_,_,_,_]) ?_
  refine az (_,[]) (fun τ=> (dZ rfl aa (by repeat' (first | exact aJ | refine aI ?_ ?_ | exact Lv.v | exact aF ab | exact Lv.sl | exact Lv.fp | exact Lv.nil | refine Lv.agg rfl ?_ | refine Lv.fn rfl ?_ rfl ?_ | exact am | refine ai ?_ ?_ | exact Lv.z0)) (hask) rfl rfl)) ?_
  refine aE (rfl:_=[_,_,_,_,_,_,_,_,_,_]) ?_
  refine az (_,[]) (fun τ=> au _ bc) ?_
  refine aE (rfl:_=[_,_,_,_,_,_,_,_,_,_,_]) ?_
  refine az (_,[]) (fun τ=> fE _ _ rfl rfl ab rfl) ?_
  refine aE (rfl:_=[_,_,_,_,_,_,_,_,_,_,_,_]) ?_
  refine az (_,[]) (fun τ=> aM _ bc) ?_
  refine aE (rfl:_=[_,_,_,_,_,_,_,_,_,_,_,_,_]) ?_
  refine cf ⟨rfl,?_⟩
  refine ap (hK5 _ ?_)
  clear hK5;try clear K5
  refine ay fun K6 hK6=> ?_
  refine an ?_
  refine aj (au _ bI) ?_
  refine aj (aR _ rfl rfl) ?_
  first
    | refine aj (aA _ aa rfl rfl rfl) ?_
    | refine aj (aC _ aa rfl rfl) ?_
  first
    | refine aj (aK _ aa rfl rfl gg) ?_
    | refine aj (aN _ aa rfl rfl (by first | rfl | exact ax _ _ ab | exact aG _ _ ab | assumption | exact ax _ _ ab) rfl) ?_
  refine aj (bA (r:=((s.asked++[k]).length:Int)) _ _ rfl rfl ((dH ab).trans (by simp))) ?_
  refine aj (aR _ rfl rfl) ?_
  first
    | refine aj (aA _ aa rfl rfl rfl) ?_
    | refine aj (aC _ aa rfl rfl) ?_
  refine aj (aT _ _ aa rfl rfl rfl rfl (Nat.le_of_ble_eq_true rfl) rfl) ?_
  refine ap (hK6 _ ?_)
  clear hK6;try clear K6
  refine ay fun K7 hK7=> ?_
  refine bP (σ':=bC 34 [(3,_),(4,_)] [((0,9),_),((1,9),_),((2,9),_),((6,0),_)] [(0,9),(1,9),(2,9),(6,0)] [(0,9),(1,9),(2,9)]) (by
    refine Le.mkJ [] [] rfl ?_ ?_ trivial ⟨rfl,rfl,rfl,trivial⟩ ?_
    · exact ⟨(iV rfl),(iV rfl),trivial⟩
    · exact ⟨(bn rfl rfl rfl),(bn rfl rfl rfl),(bn rfl rfl rfl),(bn rfl rfl rfl),trivial⟩
    kernel_rfl) ?_
  refine an ?_
  refine aj (au _ bc) ?_
  refine aj (au _ bc) ?_
  refine aj (bA (r:=(M.ans.getD s.asked.length 0).tmod k+k) _ _ rfl rfl (dH ab)) ?_
  refine aj (au _ bc) ?_
  refine aj (fE (r:=fK M.ans s.asked.length k) _ _ rfl rfl ab htm.2.2) ?_
  refine aj (aM _ bc) ?_
  refine ap (hK7 _ ?_)
  clear hK7;try clear K7
  refine br ?_
  exact dk (.inr rfl) rfl (.tmp pd) (Le.outI [((3,8),(6,0))] [] .v rfl rfl rfl trivial ⟨⟨rfl,⟨_,rfl, .box rfl (ai .sl (ai .v (ai .v (ai .v (ai .v (ai .v (ai .v (ai .v (ai .v (ai .v (ai .v (ai .v (ai .v (ai .v (ai .v (ai .v (ai .v (ai .v (ai .v (ai .v (ai .v (ai .v (ai .v (ai .v (ai .v (ai .v (ai .v (ai .v (ai .v (ai .v (ai .v (ai .v (ai .v (ai .v (ai .v (ai .v (ai .v (ai .v (ai .v (ai .v (ai .v (ai .v (ai .v (ai .sl (ai .v (ai .v (ai .v (ai .v (ai .v (ai .v (ai .v (ai .v (ai .v (ai (.fn rfl am rfl am) (ai (aq rfl rfl) (ai (aq rfl rfl) (ai .v (ai .v (ai .v (ai (aq rfl rfl) (ai .v (ai .v (ai .v (ai .v am))))))))))))))))))))))))))))))))))))))))))))))))))))))))))))))))⟩,rfl⟩,⟨rfl,⟨_,rfl, .rowE rfl⟩,rfl⟩,⟨rfl,⟨_,rfl, .rowE rfl⟩,rfl⟩,⟨rfl,⟨_,rfl, .rowE rfl⟩,rfl⟩,trivial⟩ ⟨rfl,rfl,rfl,trivial⟩ rfl)
theorem im (n:Int) (hs:s.stack.length≤90000) (h2:2≤s.stack.length) {g:FuncId} [bR Try.prog g] {r:Int} (hg:Spec Try.prog g (bq ([.v (.int .i64 (s.top 1)), .v (.int .i64 (s.top 0))]++[]) []) (aX (.v (.int .i64 r)) [])):
    Spec Try.prog 69 (aZ [.ptr (0,9) 0, .v (.int .i64 n), .fp 0 [.fn (.func g) [] []]] (eL M s dr se)) (aS (.tup []) (eH M { s with stack:=s.pop 2++[fF r] } dr se (2,8) (3,8)) [(0,9),(1,9),(2,8),(3,8)] [(0,9),(1,9)]):=by
  have h2x:=aW M { s with stack:=s.pop 1 } dr se (by have:=bd s 1;simp only;omega) (by have:=bd s 1;simp only;omega)
  rw [bW s 0 1 ab,bY,Nat.zero_add] at h2x
  refine Spec.ofNI Try.func69 rfl Try.ntmps69 rfl ?_
  refine ay fun K1 hK1=> ?_
  refine an ?_
  refine aj (au _ bI) ?_
  refine bj (Le.incT (7,0) rfl) ?_
  refine aj (aH aa [((3,8),(7,0))] ?_ (aW M s dr se ab ab) ⟨⟨rfl,⟨_,rfl, .box ag (ai .sl (ai .v (ai .v (ai .v (ai .v (ai .v (ai .v (ai .v (ai .v (ai .v (ai .v (ai .v (ai .v (ai .v (ai .v (ai .v (ai .v (ai .v (ai .v (ai .v (ai .v (ai .v (ai .v (ai .v (ai .v (ai .v (ai .v (ai .v (ai .v (ai .v (ai .v (ai .v (ai .v (ai .v (ai .v (ai .v (ai .v (ai .v (ai .v (ai .v (ai .v (ai .v (ai .v (ai .sl (ai .v (ai .v (ai .v (ai .v (ai .v (ai .v (ai .v (ai .v (ai .v (ai (.fn rfl am rfl am) (ai (aq (id:=(1,9)) (id':=(1,9)) rfl rfl) (ai (aq (id:=(2,9)) (id':=(2,9)) rfl rfl) (ai .v (ai .v (ai .v (ai (aq (id:=(3,9)) (id':=(3,9)) rfl rfl) (ai .v (ai .v (ai .v (ai .v am))))))))))))))))))))))))))))))))))))))))))))))))))))))))))))))))⟩,rfl⟩,⟨rfl,⟨_,rfl, .rowE rfl⟩,rfl⟩,⟨rfl,⟨_,rfl, .rowE rfl⟩,rfl⟩,⟨rfl,⟨_,rfl, .rowE rfl⟩,rfl⟩,trivial⟩ ⟨rfl,rfl,rfl,rfl,trivial⟩ ⟨rfl,rfl,rfl,rfl,trivial⟩ rfl ae ae) ?_
  · repeat' (first | exact aD | refine aB ?_ ?_ | exact Lv.v | exact aF (by assumption) | exact aF ab | exact Lv.sl | exact Lv.fp | exact Lv.nil | exact aq rfl rfl | exact aP rfl | refine Lv.agg rfl ?_ | refine Lv.fn rfl ?_ rfl ?_ | refine Lv.ifc ?_ | exact am | refine ai ?_ ?_)
  refine aj (aM _ bc) ?_
  refine ap (hK1 _ ?_)
  clear hK1;try clear K1
  refine bP (Le.incT (11,0) rfl) ?_
  refine de 6 [8,9,10,11,12,13] [(0,9),(1,9),(2,9),(11,0),(7,0)] ae ae rfl (aQ rfl) (rfl:_=[_,_,_,_,_,_]) (rfl:_=[_]) ?_
  refine az (_,[]) (fun τ=> au _ bI) ?_
  refine aE (rfl:_=[_]) ?_
  refine az (_,[]) (fun τ=> eX _ aa rfl (by first | rfl | exact ax _ _ ab | exact aG _ _ ab | assumption | exact ax _ _ ab) rfl) ?_
  refine aE (rfl:_=[_,_]) ?_
  refine az (_,[]) (fun τ=> au _ bI) ?_
  refine aE (rfl:_=[_,_,_]) ?_
  refine az (_,[((0,9),_),((1,9),_),((2,9),_),((11,0),_),((7,0), .gone)]) (fun τ=> (aH aa [((3,9),(7,0)),((3,8),(11,0))] ?_ (h2x) ⟨⟨rfl,⟨_,rfl, .box ag (ai .sl (ai .v (ai .v (ai .v (ai .v (ai .v (ai .v (ai .v (ai .v (ai .v (ai .v (ai .v (ai .v (ai .v (ai .v (ai .v (ai .v (ai .v (ai .v (ai .v (ai .v (ai .v (ai .v (ai .v (ai .v (ai .v (ai .v (ai .v (ai .v (ai .v (ai .v (ai .v (ai .v (ai .v (ai .v (ai .v (ai .v (ai .v (ai .v (ai .v (ai .v (ai .v (ai .v (ai .sl (ai .v (ai .v (ai .v (ai .v (ai .v (ai .v (ai .v (ai .v (ai .v (ai (.fn rfl am rfl am) (ai (aq (id:=(1,9)) (id':=(1,9)) rfl rfl) (ai (aq (id:=(2,9)) (id':=(2,9)) rfl rfl) (ai .v (ai .v (ai .v (ai (aq (id:=(3,9)) (id':=(7,0)) rfl rfl) (ai .v (ai .v (ai .v (ai .v am))))))))))))))))))))))))))))))))))))))))))))))))))))))))))))))))⟩,rfl⟩,⟨rfl,⟨_,rfl, .rowE rfl⟩,rfl⟩,⟨rfl,⟨_,rfl, .rowE rfl⟩,rfl⟩,⟨rfl,⟨_,rfl, .rowE rfl⟩,rfl⟩,trivial⟩ ⟨rfl,rfl,rfl,rfl,trivial⟩ ⟨rfl,rfl,rfl,rfl,trivial⟩ rfl ae ae)) ?_
  · repeat' (first | exact aD | refine aB ?_ ?_ | exact Lv.v | exact aF (by assumption) | exact aF ab | exact Lv.sl | exact Lv.fp | exact Lv.nil | exact aq rfl rfl | exact aP rfl | refine Lv.agg rfl ?_ | refine Lv.fn rfl ?_ rfl ?_ | refine Lv.ifc ?_ | exact am | refine ai ?_ ?_)
  refine aE (rfl:_=[_,_,_,_]) ?_
  refine az (_,[]) (fun τ=> au _ bc) ?_
  refine aE (rfl:_=[_,_,_,_,_]) ?_
  refine az (_,[]) (fun τ=> (dZ rfl aa (by repeat' (first | exact aJ | refine aI ?_ ?_ | exact Lv.v | exact aF ab | exact Lv.sl | exact Lv.fp | exact Lv.nil | refine Lv.agg rfl ?_ | refine Lv.fn rfl ?_ rfl ?_ | exact am | refine ai ?_ ?_ | exact Lv.z0)) (hg) rfl rfl)) ?_
  refine aE (rfl:_=[_,_,_,_,_,_]) ?_
  refine cf ⟨rfl,?_⟩
  refine bj (Le.incT (14,0) rfl) ?_
  refine aj (aH aa [((3,9),(11,0)),((3,8),(14,0))] ?_ (bK M { s with stack:=s.pop 2 } dr se r (by have:=bd s 2;simp only;omega)) ⟨⟨rfl,⟨_,rfl, .box ag (ai .sl (ai .v (ai .v (ai .v (ai .v (ai .v (ai .v (ai .v (ai .v (ai .v (ai .v (ai .v (ai .v (ai .v (ai .v (ai .v (ai .v (ai .v (ai .v (ai .v (ai .v (ai .v (ai .v (ai .v (ai .v (ai .v (ai .v (ai .v (ai .v (ai .v (ai .v (ai .v (ai .v (ai .v (ai .v (ai .v (ai .v (ai .v (ai .v (ai .v (ai .v (ai .v (ai .v (ai .sl (ai .v (ai .v (ai .v (ai .v (ai .v (ai .v (ai .v (ai .v (ai .v (ai (.fn rfl am rfl am) (ai (aq (id:=(1,9)) (id':=(1,9)) rfl rfl) (ai (aq (id:=(2,9)) (id':=(2,9)) rfl rfl) (ai .v (ai .v (ai .v (ai (aq (id:=(3,9)) (id':=(11,0)) rfl rfl) (ai .v (ai .v (ai .v (ai .v am))))))))))))))))))))))))))))))))))))))))))))))))))))))))))))))))⟩,rfl⟩,⟨rfl,⟨_,rfl, .rowE rfl⟩,rfl⟩,⟨rfl,⟨_,rfl, .rowE rfl⟩,rfl⟩,⟨rfl,⟨_,rfl, .rowE rfl⟩,rfl⟩,trivial⟩ ⟨rfl,rfl,rfl,rfl,trivial⟩ ⟨rfl,rfl,rfl,rfl,trivial⟩ rfl ae ae) ?_
  · repeat' (first | exact aD | refine aB ?_ ?_ | exact Lv.v | exact aF (by assumption) | exact aF ab | exact Lv.sl | exact Lv.fp | exact Lv.nil | exact aq rfl rfl | exact aP rfl | refine Lv.agg rfl ?_ | refine Lv.fn rfl ?_ rfl ?_ | refine Lv.ifc ?_ | exact am | refine ai ?_ ?_)
  refine ap ?_
  exact cR (.inl rfl) rfl (Le.outI [((2,8),(2,9)),((3,8),(14,0))] [] (.tup rfl am) rfl rfl rfl trivial ⟨⟨rfl,⟨_,rfl, .box rfl (ai .sl (ai .v (ai .v (ai .v (ai .v (ai .v (ai .v (ai .v (ai .v (ai .v (ai .v (ai .v (ai .v (ai .v (ai .v (ai .v (ai .v (ai .v (ai .v (ai .v (ai .v (ai .v (ai .v (ai .v (ai .v (ai .v (ai .v (ai .v (ai .v (ai .v (ai .v (ai .v (ai .v (ai .v (ai .v (ai .v (ai .v (ai .v (ai .v (ai .v (ai .v (ai .v (ai .v (ai .sl (ai .v (ai .v (ai .v (ai .v (ai .v (ai .v (ai .v (ai .v (ai .v (ai (.fn rfl am rfl am) (ai (aq rfl rfl) (ai (aq rfl rfl) (ai .v (ai .v (ai .v (ai (aq rfl rfl) (ai .v (ai .v (ai .v (ai .v am))))))))))))))))))))))))))))))))))))))))))))))))))))))))))))))))⟩,rfl⟩,⟨rfl,⟨_,rfl, .rowE rfl⟩,rfl⟩,⟨rfl,⟨_,rfl, .rowE rfl⟩,rfl⟩,⟨rfl,⟨_,rfl, .rowE rfl⟩,rfl⟩,trivial⟩ ⟨rfl,rfl,trivial⟩ rfl)
theorem jJ (n:Int) (hs:s.stack.length≤90000) (h2:2≤s.stack.length) {g:FuncId} [bR Try.prog g] {f:FuncId} {r:Int} (hg:Spec Try.prog g (bq ([.v (.int .i64 (s.top 1)), .v (.int .i64 (s.top 0))]++[.fp 0 [.fn (.func f) [] []]]) []) (aX (.v (.int .i64 r)) [])):
    Spec Try.prog 69 (aZ [.ptr (0,9) 0, .v (.int .i64 n), .fp 0 [.fn (.func g) [] [.ptr 0 [.fn (.func f) [] []]]]] (eL M s dr se)) (aS (.tup []) (eH M { s with stack:=s.pop 2++[fF r] } dr se (2,8) (3,8)) [(0,9),(1,9),(2,8),(3,8)] [(0,9),(1,9)]):=by
  have h2x:=aW M { s with stack:=s.pop 1 } dr se (by have:=bd s 1;simp only;omega) (by have:=bd s 1;simp only;omega)
  rw [bW s 0 1 ab,bY,Nat.zero_add] at h2x
  refine Spec.ofNI Try.func69 rfl Try.ntmps69 rfl ?_
  refine ay fun K1 hK1=> ?_
  refine an ?_
  refine aj (au _ bI) ?_
  refine bj (Le.incT (7,0) rfl) ?_
  refine aj (aH aa [((3,8),(7,0))] ?_ (aW M s dr se ab ab) ⟨⟨rfl,⟨_,rfl, .box ag (ai .sl (ai .v (ai .v (ai .v (ai .v (ai .v (ai .v (ai .v (ai .v (ai .v (ai .v (ai .v (ai .v (ai .v (ai .v (ai .v (ai .v (ai .v (ai .v (ai .v (ai .v (ai .v (ai .v (ai .v (ai .v (ai .v (ai .v (ai .v (ai .v (ai .v (ai .v (ai .v (ai .v (ai .v (ai .v (ai .v (ai .v (ai .v (ai .v (ai .v (ai .v (ai .v (ai .v (ai .sl (ai .v (ai .v (ai .v (ai .v (ai .v (ai .v (ai .v (ai .v (ai .v (ai (.fn rfl am rfl am) (ai (aq (id:=(1,9)) (id':=(1,9)) rfl rfl) (ai (aq (id:=(2,9)) (id':=(2,9)) rfl rfl) (ai .v (ai .v (ai .v (ai (aq (id:=(3,9)) (id':=(3,9)) rfl rfl) (ai .v (ai .v (ai .v (ai .v am))))))))))))))))))))))))))))))))))))))))))))))))))))))))))))))))⟩,rfl⟩,⟨rfl,⟨_,rfl, .rowE rfl⟩,rfl⟩,⟨rfl,⟨_,rfl, .rowE rfl⟩,rfl⟩,⟨rfl,⟨_,rfl, .rowE rfl⟩,rfl⟩,trivial⟩ ⟨rfl,rfl,rfl,rfl,trivial⟩ ⟨rfl,rfl,rfl,rfl,trivial⟩ rfl ae ae) ?_
  · repeat' (first | exact aD | refine aB ?_ ?_ | exact Lv.v | exact aF (by assumption) | exact aF ab | exact Lv.sl | exact Lv.fp | exact Lv.nil | exact aq rfl rfl | exact aP rfl | refine Lv.agg rfl ?_ | refine Lv.fn rfl ?_ rfl ?_ | refine Lv.ifc ?_ | exact am | refine ai ?_ ?_)
  refine aj (aM _ bc) ?_
  refine ap (hK1 _ ?_)
  clear hK1;try clear K1
  refine bP (Le.incT (11,0) rfl) ?_
  refine de 6 [8,9,10,11,12,13] [(0,9),(1,9),(2,9),(11,0),(7,0)] ae ae rfl (aQ rfl) (rfl:_=[_,_,_,_,_,_]) (rfl:_=[_]) ?_
  refine az (_,[]) (fun τ=> au _ bI) ?_
  refine aE (rfl:_=[_]) ?_
  refine az (_,[]) (fun τ=> eX _ aa rfl (by first | rfl | exact ax _ _ ab | exact aG _ _ ab | assumption | exact ax _ _ ab) rfl) ?_
  refine aE (rfl:_=[_,_]) ?_
  refine az (_,[]) (fun τ=> au _ bI) ?_
  refine aE (rfl:_=[_,_,_]) ?_
  refine az (_,[((0,9),_),((1,9),_),((2,9),_),((11,0),_),((7,0), .gone)]) (fun τ=> (aH aa [((3,9),(7,0)),((3,8),(11,0))] ?_ (h2x) ⟨⟨rfl,⟨_,rfl, .box ag (ai .sl (ai .v (ai .v (ai .v (ai .v (ai .v (ai .v (ai .v (ai .v (ai .v (ai .v (ai .v (ai .v (ai .v (ai .v (ai .v (ai .v (ai .v (ai .v (ai .v (ai .v (ai .v (ai .v (ai .v (ai .v (ai .v (ai .v (ai .v (ai .v (ai .v (ai .v (ai .v (ai .v (ai .v (ai .v (ai .v (ai .v (ai .v (ai .v (ai .v (ai .v (ai .v (ai .v (ai .sl (ai .v (ai .v (ai .v (ai .v (ai .v (ai .v (ai .v (ai .v (ai .v (ai (.fn rfl am rfl am) (ai (aq (id:=(1,9)) (id':=(1,9)) rfl rfl) (ai (aq (id:=(2,9)) (id':=(2,9)) rfl rfl) (ai .v (ai .v (ai .v (ai (aq (id:=(3,9)) (id':=(7,0)) rfl rfl) (ai .v (ai .v (ai .v (ai .v am))))))))))))))))))))))))))))))))))))))))))))))))))))))))))))))))⟩,rfl⟩,⟨rfl,⟨_,rfl, .rowE rfl⟩,rfl⟩,⟨rfl,⟨_,rfl, .rowE rfl⟩,rfl⟩,⟨rfl,⟨_,rfl, .rowE rfl⟩,rfl⟩,trivial⟩ ⟨rfl,rfl,rfl,rfl,trivial⟩ ⟨rfl,rfl,rfl,rfl,trivial⟩ rfl ae ae)) ?_
  · repeat' (first | exact aD | refine aB ?_ ?_ | exact Lv.v | exact aF (by assumption) | exact aF ab | exact Lv.sl | exact Lv.fp | exact Lv.nil | exact aq rfl rfl | exact aP rfl | refine Lv.agg rfl ?_ | refine Lv.fn rfl ?_ rfl ?_ | refine Lv.ifc ?_ | exact am | refine ai ?_ ?_)
  refine aE (rfl:_=[_,_,_,_]) ?_
  refine az (_,[]) (fun τ=> au _ bc) ?_
  refine aE (rfl:_=[_,_,_,_,_]) ?_
  refine az (_,[]) (fun τ=> (dZ rfl aa (by repeat' (first | exact aJ | refine aI ?_ ?_ | exact Lv.v | exact aF ab | exact Lv.sl | exact Lv.fp | exact Lv.nil | refine Lv.agg rfl ?_ | refine Lv.fn rfl ?_ rfl ?_ | exact am | refine ai ?_ ?_ | exact Lv.z0)) (hg) rfl rfl)) ?_
  refine aE (rfl:_=[_,_,_,_,_,_]) ?_
  refine cf ⟨rfl,?_⟩
  refine bj (Le.incT (14,0) rfl) ?_
  refine aj (aH aa [((3,9),(11,0)),((3,8),(14,0))] ?_ (bK M { s with stack:=s.pop 2 } dr se r (by have:=bd s 2;simp only;omega)) ⟨⟨rfl,⟨_,rfl, .box ag (ai .sl (ai .v (ai .v (ai .v (ai .v (ai .v (ai .v (ai .v (ai .v (ai .v (ai .v (ai .v (ai .v (ai .v (ai .v (ai .v (ai .v (ai .v (ai .v (ai .v (ai .v (ai .v (ai .v (ai .v (ai .v (ai .v (ai .v (ai .v (ai .v (ai .v (ai .v (ai .v (ai .v (ai .v (ai .v (ai .v (ai .v (ai .v (ai .v (ai .v (ai .v (ai .v (ai .v (ai .sl (ai .v (ai .v (ai .v (ai .v (ai .v (ai .v (ai .v (ai .v (ai .v (ai (.fn rfl am rfl am) (ai (aq (id:=(1,9)) (id':=(1,9)) rfl rfl) (ai (aq (id:=(2,9)) (id':=(2,9)) rfl rfl) (ai .v (ai .v (ai .v (ai (aq (id:=(3,9)) (id':=(11,0)) rfl rfl) (ai .v (ai .v (ai .v (ai .v am))))))))))))))))))))))))))))))))))))))))))))))))))))))))))))))))⟩,rfl⟩,⟨rfl,⟨_,rfl, .rowE rfl⟩,rfl⟩,⟨rfl,⟨_,rfl, .rowE rfl⟩,rfl⟩,⟨rfl,⟨_,rfl, .rowE rfl⟩,rfl⟩,trivial⟩ ⟨rfl,rfl,rfl,rfl,trivial⟩ ⟨rfl,rfl,rfl,rfl,trivial⟩ rfl ae ae) ?_
  · repeat' (first | exact aD | refine aB ?_ ?_ | exact Lv.v | exact aF (by assumption) | exact aF ab | exact Lv.sl | exact Lv.fp | exact Lv.nil | exact aq rfl rfl | exact aP rfl | refine Lv.agg rfl ?_ | refine Lv.fn rfl ?_ rfl ?_ | refine Lv.ifc ?_ | exact am | refine ai ?_ ?_)
  refine ap ?_
  exact cR (.inl rfl) rfl (Le.outI [((2,8),(2,9)),((3,8),(14,0))] [] (.tup rfl am) rfl rfl rfl trivial ⟨⟨rfl,⟨_,rfl, .box rfl (ai .sl (ai .v (ai .v (ai .v (ai .v (ai .v (ai .v (ai .v (ai .v (ai .v (ai .v (ai .v (ai .v (ai .v (ai .v (ai .v (ai .v (ai .v (ai .v (ai .v (ai .v (ai .v (ai .v (ai .v (ai .v (ai .v (ai .v (ai .v (ai .v (ai .v (ai .v (ai .v (ai .v (ai .v (ai .v (ai .v (ai .v (ai .v (ai .v (ai .v (ai .v (ai .v (ai .v (ai .sl (ai .v (ai .v (ai .v (ai .v (ai .v (ai .v (ai .v (ai .v (ai .v (ai (.fn rfl am rfl am) (ai (aq rfl rfl) (ai (aq rfl rfl) (ai .v (ai .v (ai .v (ai (aq rfl rfl) (ai .v (ai .v (ai .v (ai .v am))))))))))))))))))))))))))))))))))))))))))))))))))))))))))))))))⟩,rfl⟩,⟨rfl,⟨_,rfl, .rowE rfl⟩,rfl⟩,⟨rfl,⟨_,rfl, .rowE rfl⟩,rfl⟩,⟨rfl,⟨_,rfl, .rowE rfl⟩,rfl⟩,trivial⟩ ⟨rfl,rfl,trivial⟩ rfl)
end
end Go.Proofs.Ytmjnackchaahbaa
