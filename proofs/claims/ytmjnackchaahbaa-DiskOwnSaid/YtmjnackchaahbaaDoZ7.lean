/- part 7 -/
import Derived.Test.YtmjnackchaahbaaDoZ6
set_option linter.unusedSimpArgs false
set_option linter.unusedVariables false
namespace Go.Proofs.Ytmjnackchaahbaa
open Go.RowKit
theorem iN (d:Dk) (h1:d.cells.length≤1000000) (h2:d.pend.length≤1000000) (c v:Int) (hc:c < 0):
    Spec Try.prog 7 (bq [cm d, .v (.int .i64 c), .v (.int .i64 v)] []) (bc (.agg [.ref (0,8) 0 d.cells.length, .ref (1,8) 0 d.pend.length]) [((0,8), .row 3 1 (bG d.cells)),((1,8), .row 35 2 (cN d.pend))]):=by
  have hd:=ca d h1 h2
  refine Spec.ofN Try.func7 rfl Try.ntmps7 rfl ?_
  refine al fun K1 hK1=> ?_
  refine ai ?_
  refine ah (bC (3,0) _ rfl rfl) ?_
  refine ah (aP (6,0) aa rfl rfl) ?_
  refine ak (hK1 _ ?_)
  clear hK1;try clear K1
  refine al fun K2 hK2=> ?_
  refine ai ?_
  first
    | refine ah (aE _ aa rfl rfl rfl rfl) ?_
    | refine ah (aD _ aa rfl rfl (by first | rfl | assumption) rfl) ?_
    | refine ah (aA _ aa rfl (by first | rfl | assumption) rfl) ?_
  refine ah (bW aa [((0,8),(9,0)),((1,8),(9,1))] ?_ (hd.toI) trivial ⟨rfl,rfl,trivial⟩ ac) ?_
  · repeat' (first | exact aW | refine aQ ?_ ?_ | exact Lv.v | exact bd (by assumption) | exact bd ab | exact Lv.sl | exact Lv.fp | exact Lv.nil | exact aC rfl rfl | exact aZ rfl | refine Lv.agg rfl ?_ | refine Lv.fn rfl ?_ rfl ?_ | refine Lv.ifc ?_ | exact ap | refine aj ?_ ?_)
  refine ah (aP (7,0) aa rfl rfl) ?_
  refine ah (aM _ _ aa rfl rfl rfl rfl (Nat.le_of_ble_eq_true rfl) rfl) ?_
  refine ak (hK2 _ ?_)
  clear hK2;try clear K2
  refine al fun K3 hK3=> ?_
  refine al fun K4 hK4=> ?_
  refine ai ?_
  refine ah (am _ aR) ?_
  refine ah (aL (r:=true) _ _ rfl rfl (decide_eq_true ab)) ?_
  refine ah (am _ cw) ?_
  refine bP rfl rfl ag ?_
  refine bP rfl rfl ag ?_
  refine bP rfl rfl ag ?_
  refine bP rfl rfl ag ?_
  refine bP rfl rfl ag ?_
  refine ah (bu _ _ _ rfl cw) ?_
  refine ak (hK4 _ ?_)
  clear hK4;try clear K4
  refine fc rfl rfl ?_
  refine al fun K5 hK5=> ?_
  refine bz (σ':=bi 45 [(6,_),(7,_)] [((6,0),_),((9,0),_),((9,1),_),((7,0),_)] [] []) (by
    refine Le.mkJ [] [] rfl ?_ ?_ trivial trivial ?_
    · exact ⟨(iP rfl),(iP rfl),trivial⟩
    · exact ⟨(ay rfl rfl rfl),(ay rfl rfl rfl),(ay rfl rfl rfl),(ay rfl rfl rfl),trivial⟩
    kernel_rfl) ?_
  refine ai ?_
  first
    | refine ah (aE _ aa rfl rfl rfl rfl) ?_
    | refine ah (aD _ aa rfl rfl (by first | rfl | assumption) rfl) ?_
    | refine ah (aA _ aa rfl (by first | rfl | assumption) rfl) ?_
  refine ah (aM _ _ aa rfl rfl rfl rfl (Nat.le_of_ble_eq_true rfl) rfl) ?_
  refine ak (hK5 _ ?_)
  clear hK5;try clear K5
  refine bp ?_
  exact bS (.inr rfl) rfl (.cellA aa rfl rfl rfl) (Le.out [((0,8),(9,0)),((1,8),(9,1))] [] (.agg rfl (aj (aC rfl rfl) (aj (aC rfl rfl) ap))) rfl rfl rfl trivial ⟨⟨rfl,⟨_,rfl, .rowE rfl⟩,rfl⟩,⟨rfl,⟨_,rfl, .rowE rfl⟩,rfl⟩,trivial⟩)
theorem iG (d:Dk) (h1:d.cells.length≤1000000) (h2:d.pend.length≤1000000) (c v:Int) (hc:0≤c) (hb:(d.cells.length:Int)≤c):
    Spec Try.prog 7 (bq [cm d, .v (.int .i64 c), .v (.int .i64 v)] []) (bc (.agg [.ref (0,8) 0 d.cells.length, .ref (1,8) 0 d.pend.length]) [((0,8), .row 3 1 (bG d.cells)),((1,8), .row 35 2 (cN d.pend))]):=by
  have hd:=ca d h1 h2
  refine Spec.ofN Try.func7 rfl Try.ntmps7 rfl ?_
  refine al fun K1 hK1=> ?_
  refine ai ?_
  refine ah (bC (3,0) _ rfl rfl) ?_
  refine ah (aP (6,0) aa rfl rfl) ?_
  refine ak (hK1 _ ?_)
  clear hK1;try clear K1
  refine al fun K2 hK2=> ?_
  refine ai ?_
  first
    | refine ah (aE _ aa rfl rfl rfl rfl) ?_
    | refine ah (aD _ aa rfl rfl (by first | rfl | assumption) rfl) ?_
    | refine ah (aA _ aa rfl (by first | rfl | assumption) rfl) ?_
  refine ah (bW aa [((0,8),(9,0)),((1,8),(9,1))] ?_ (hd.toI) trivial ⟨rfl,rfl,trivial⟩ ac) ?_
  · repeat' (first | exact aW | refine aQ ?_ ?_ | exact Lv.v | exact bd (by assumption) | exact bd ab | exact Lv.sl | exact Lv.fp | exact Lv.nil | exact aC rfl rfl | exact aZ rfl | refine Lv.agg rfl ?_ | refine Lv.fn rfl ?_ rfl ?_ | refine Lv.ifc ?_ | exact ap | refine aj ?_ ?_)
  refine ah (aP (7,0) aa rfl rfl) ?_
  refine ah (aM _ _ aa rfl rfl rfl rfl (Nat.le_of_ble_eq_true rfl) rfl) ?_
  refine ak (hK2 _ ?_)
  clear hK2;try clear K2
  refine al fun K3 hK3=> ?_
  refine al fun K4 hK4=> ?_
  refine ai ?_
  refine ah (am _ aR) ?_
  refine ah (aL (r:=false) _ _ rfl rfl (decide_eq_false ab)) ?_
  refine ah (am _ cw) ?_
  refine aI rfl rfl (am _ aR) ?_
  first
    | refine aI rfl rfl (au _ aa rfl rfl rfl) ?_
    | refine aI rfl rfl (aw _ aa rfl rfl) ?_
  first
    | refine aI rfl rfl (aB _ aa rfl rfl dt) ?_
    | refine aI rfl rfl (aH _ aa rfl rfl (by first | rfl | exact an _ _ ab | exact ar _ _ ab | assumption | exact an _ _ ab) rfl) ?_
  refine aI rfl rfl (bl _ aa rfl) ?_
  refine aI rfl rfl (dM (r:=true) _ _ rfl rfl (decide_eq_true ab)) ?_
  refine ah (bu _ _ _ rfl cw) ?_
  refine ak (hK4 _ ?_)
  clear hK4;try clear K4
  refine fc rfl rfl ?_
  refine al fun K5 hK5=> ?_
  refine bz (σ':=bi 45 [(6,_),(7,_)] [((6,0),_),((9,0),_),((9,1),_),((7,0),_)] [] []) (by
    refine Le.mkJ [] [] rfl ?_ ?_ trivial trivial ?_
    · exact ⟨(iP rfl),(iP rfl),trivial⟩
    · exact ⟨(ay rfl rfl rfl),(ay rfl rfl rfl),(ay rfl rfl rfl),(ay rfl rfl rfl),trivial⟩
    kernel_rfl) ?_
  refine ai ?_
  first
    | refine ah (aE _ aa rfl rfl rfl rfl) ?_
    | refine ah (aD _ aa rfl rfl (by first | rfl | assumption) rfl) ?_
    | refine ah (aA _ aa rfl (by first | rfl | assumption) rfl) ?_
  refine ah (aM _ _ aa rfl rfl rfl rfl (Nat.le_of_ble_eq_true rfl) rfl) ?_
  refine ak (hK5 _ ?_)
  clear hK5;try clear K5
  refine bp ?_
  exact bS (.inr rfl) rfl (.cellA aa rfl rfl rfl) (Le.out [((0,8),(9,0)),((1,8),(9,1))] [] (.agg rfl (aj (aC rfl rfl) (aj (aC rfl rfl) ap))) rfl rfl rfl trivial ⟨⟨rfl,⟨_,rfl, .rowE rfl⟩,rfl⟩,⟨rfl,⟨_,rfl, .rowE rfl⟩,rfl⟩,trivial⟩)
theorem gY (d:Dk) (h1:d.cells.length≤1000000) (h2:d.pend.length≤1000000) (c v:Int) (hc:0≤c) (hb:c < (d.cells.length:Int)) (hr:d.pend.length+1≤4):
    Spec Try.prog 7 (bq [cm d, .v (.int .i64 c), .v (.int .i64 v)] []) (bc (.agg [.ref (0,8) 0 d.cells.length, .ref (1,8) 0 (d.pend.length+1)]) [((0,8), .row 3 1 (bG d.cells)),((1,8), .row 35 2 (cN (d.pend++[(c,v)])))]):=by
  have hd:=ca d h1 h2
  have hl:(d.pend++[(c,v)]).length=d.pend.length+1:=by simp
  refine Spec.ofN Try.func7 rfl Try.ntmps7 rfl ?_
  refine al fun K1 hK1=> ?_
  refine ai ?_
  refine ah (bC (3,0) _ rfl rfl) ?_
  refine ah (aP (6,0) aa rfl rfl) ?_
  refine ak (hK1 _ ?_)
  clear hK1;try clear K1
  refine al fun K2 hK2=> ?_
  refine ai ?_
  first
    | refine ah (aE _ aa rfl rfl rfl rfl) ?_
    | refine ah (aD _ aa rfl rfl (by first | rfl | assumption) rfl) ?_
    | refine ah (aA _ aa rfl (by first | rfl | assumption) rfl) ?_
  refine ah (bW aa [((0,8),(9,0)),((1,8),(9,1))] ?_ (hd.toI) trivial ⟨rfl,rfl,trivial⟩ ac) ?_
  · repeat' (first | exact aW | refine aQ ?_ ?_ | exact Lv.v | exact bd (by assumption) | exact bd ab | exact Lv.sl | exact Lv.fp | exact Lv.nil | exact aC rfl rfl | exact aZ rfl | refine Lv.agg rfl ?_ | refine Lv.fn rfl ?_ rfl ?_ | refine Lv.ifc ?_ | exact ap | refine aj ?_ ?_)
  refine ah (aP (7,0) aa rfl rfl) ?_
  refine ah (aM _ _ aa rfl rfl rfl rfl (Nat.le_of_ble_eq_true rfl) rfl) ?_
  refine ak (hK2 _ ?_)
  clear hK2;try clear K2
  refine al fun K3 hK3=> ?_
  refine al fun K4 hK4=> ?_
  refine ai ?_
  refine ah (am _ aR) ?_
  refine ah (aL (r:=false) _ _ rfl rfl (decide_eq_false ab)) ?_
  refine ah (am _ cw) ?_
  refine aI rfl rfl (am _ aR) ?_
  first
    | refine aI rfl rfl (au _ aa rfl rfl rfl) ?_
    | refine aI rfl rfl (aw _ aa rfl rfl) ?_
  first
    | refine aI rfl rfl (aB _ aa rfl rfl dt) ?_
    | refine aI rfl rfl (aH _ aa rfl rfl (by first | rfl | exact an _ _ ab | exact ar _ _ ab | assumption | exact an _ _ ab) rfl) ?_
  refine aI rfl rfl (bl _ aa rfl) ?_
  refine aI rfl rfl (dM (r:=false) _ _ rfl rfl (decide_eq_false ab)) ?_
  refine ah (bu _ _ _ rfl cw) ?_
  refine ak (hK4 _ ?_)
  clear hK4;try clear K4
  refine cq rfl rfl ?_
  refine aT (hK3 _ ?_)
  clear hK3;try clear K3
  refine al fun K5 hK5=> ?_
  refine bz (σ':=bi 45 [(1,_),(2,_),(6,_),(7,_)] [((6,0),_),((9,0),_),((9,1),_),((7,0),_)] [] []) (by
    refine Le.mkJ [] [] rfl ?_ ?_ trivial trivial ?_
    · exact ⟨(iV rfl),(iV rfl),(iP rfl),(iP rfl),trivial⟩
    · exact ⟨(ay rfl rfl rfl),(ay rfl rfl rfl),(ay rfl rfl rfl),(ay rfl rfl rfl),trivial⟩
    kernel_rfl) ?_
  refine ai ?_
  first
    | refine ah (au _ aa rfl rfl rfl) ?_
    | refine ah (aw _ aa rfl rfl) ?_
  first
    | refine ah (aB _ aa rfl rfl dB) ?_
    | refine ah (aH _ aa rfl rfl (by first | rfl | exact an _ _ ab | exact ar _ _ ab | assumption | exact an _ _ ab) rfl) ?_
  refine ah (am _ aR) ?_
  refine ah (am _ aR) ?_
  refine ah (bE _ aa rfl (by exact hY)) ?_
  refine ah (bO _ _ aa rfl ae (by first | (simp <;> rfl) | (simp;exact ⟨rfl,rfl⟩) | (simp;exact ⟨rfl,rfl,rfl⟩)) ag rfl) ?_
  refine ah (cT (m:=1) (news:=gX (c,v)) (26,0) _ _ aa rfl rfl (by rw [aU]) (.sl rfl) ab rfl (dw _ (c,v)) rfl) ?_
  first
    | refine ah (au _ aa rfl rfl rfl) ?_
    | refine ah (aw _ aa rfl rfl) ?_
  refine ah (aM _ _ aa rfl rfl rfl rfl (Nat.le_of_ble_eq_true rfl) rfl) ?_
  refine ak (hK5 _ ?_)
  clear hK5;try clear K5
  refine al fun K6 hK6=> ?_
  refine al fun K7 hK7=> ?_
  refine ai ?_
  first
    | refine ah (au _ aa rfl rfl rfl) ?_
    | refine ah (aw _ aa rfl rfl) ?_
  first
    | refine ah (aB _ aa rfl rfl dB) ?_
    | refine ah (aH _ aa rfl rfl (by first | rfl | exact an _ _ ab | exact ar _ _ ab | assumption | exact an _ _ ab) rfl) ?_
  first
    | refine ah (bt _ aa rfl rfl) ?_
    | refine ah (bs _ aa rfl rfl) ?_
  first
    | refine ah (dr _ _ rfl rfl (by assumption)) ?_
    | refine ah (dr _ _ rfl rfl rfl) ?_
  refine ak (hK7 _ ?_)
  clear hK7;try clear K7
  refine cq rfl (decide_eq_false ab) ?_
  refine aT (hK6 _ ?_)
  clear hK6;try clear K6
  refine al fun K8 hK8=> ?_
  refine ai ?_
  first
    | refine ah (aE _ aa rfl rfl rfl rfl) ?_
    | refine ah (aD _ aa rfl rfl (by first | rfl | assumption) rfl) ?_
    | refine ah (aA _ aa rfl (by first | rfl | assumption) rfl) ?_
  refine ah (aM _ _ aa rfl rfl rfl rfl (Nat.le_of_ble_eq_true rfl) rfl) ?_
  refine ak (hK8 _ ?_)
  clear hK8;try clear K8
  refine bp ?_
  exact bS (.inr rfl) rfl (.cellA aa rfl rfl rfl) (Le.out [((0,8),(9,0)),((1,8),(26,0))] [] (.agg rfl (aj (aC rfl rfl) (aj (aC rfl rfl) ap))) rfl rfl rfl trivial ⟨⟨rfl,⟨_,rfl, .rowE rfl⟩,rfl⟩,⟨rfl,⟨_,rfl, .rowE rfl⟩,rfl⟩,trivial⟩)
theorem ic (d:Dk) (h1:d.cells.length≤1000000) (h2:d.pend.length≤1000000) (c v:Int) (ho:el d) (hc:0≤c) (hb:c < (d.cells.length:Int)) (hr:4 < d.pend.length+1):
    Spec Try.prog 7 (bq [cm d, .v (.int .i64 c), .v (.int .i64 v)] []) (bc (.agg [.ref (0,8) 0 d.cells.length, .ref (1,8) 2 d.pend.length]) [((0,8), .row 3 1 (bG (dZ d.cells ((d.pend++[(c,v)]).take 1)))),((1,8), .row 35 2 (cN (d.pend++[(c,v)])))]):=by
  have hd:=ca d h1 h2
  have hl:(d.pend++[(c,v)]).length=d.pend.length+1:=by simp
  have hia:=bM (d.pend++[(c,v)]) 0 ab
  have ht:(d.pend++[(c,v)]).take 1=[(d.pend++[(c,v)]).getD 0 (0,0)]:=by
    cases d.pend with
    | nil=> rfl
    | cons x l=> rfl
  have hw:0≤((d.pend++[(c,v)]).getD 0 (0,0)).1∧((d.pend++[(c,v)]).getD 0 (0,0)).1 < (d.cells.length:Int):=by
    have hm:(d.pend++[(c,v)]).getD 0 (0,0)∈d.pend++[(c,v)]:=by rw [List.getD_eq_getElem?_getD,List.getElem?_eq_getElem ab];exact List.getElem_mem _
    rcases List.mem_append.1 hm with hm | hm
    · exact ho _ hm
    rw [List.mem_singleton.1 hm];exact ⟨hc,hb⟩
  have hl2:((d.pend++[(c,v)]).drop 1).length=d.pend.length+1 - 1:=by rw [List.length_drop,hl]
  have hl3:(dZ d.cells ((d.pend++[(c,v)]).take 1)).length=d.cells.length:=bF _ _
  have hsl:((cN (d.pend++[(c,v)])).drop (1*2)).take ((d.pend.length+1 - 1)*2)=cN ((d.pend++[(c,v)]).drop 1):=by
    have e:(cN (d.pend++[(c,v)])).drop 2=cN ((d.pend++[(c,v)]).drop 1):=by
      cases d.pend with
      | nil=> rfl
      | cons x l=> rfl
    rw [Nat.one_mul,e,← hl2,en]
  generalize (d.pend++[(c,v)]).getD 0 (0,0)=w at hia ht hw
  have hap:=cW d.cells [w] (by simp) h1 (fun x hx=> by rw [List.mem_singleton.1 hx];exact hw)
  have hap:Spec Try.prog 25 (cv [.ref (0,9) 0 d.cells.length, .sl 1 (cN [w])] [((0,9), .row 3 1 (bG d.cells))]) (bY (.tup []) [((0,9), .row 3 1 (bG (dZ d.cells [w])))] [(0,9)] [(0,9)]):=hap
  refine Spec.ofN Try.func7 rfl Try.ntmps7 rfl ?_
  refine al fun K1 hK1=> ?_
  refine ai ?_
  refine ah (bC (3,0) _ rfl rfl) ?_
  refine ah (aP (6,0) aa rfl rfl) ?_
  refine ak (hK1 _ ?_)
  clear hK1;try clear K1
  refine al fun K2 hK2=> ?_
  refine ai ?_
  first
    | refine ah (aE _ aa rfl rfl rfl rfl) ?_
    | refine ah (aD _ aa rfl rfl (by first | rfl | assumption) rfl) ?_
    | refine ah (aA _ aa rfl (by first | rfl | assumption) rfl) ?_
  refine ah (bW aa [((0,8),(9,0)),((1,8),(9,1))] ?_ (hd.toI) trivial ⟨rfl,rfl,trivial⟩ ac) ?_
  · repeat' (first | exact aW | refine aQ ?_ ?_ | exact Lv.v | exact bd (by assumption) | exact bd ab | exact Lv.sl | exact Lv.fp | exact Lv.nil | exact aC rfl rfl | exact aZ rfl | refine Lv.agg rfl ?_ | refine Lv.fn rfl ?_ rfl ?_ | refine Lv.ifc ?_ | exact ap | refine aj ?_ ?_)
  refine ah (aP (7,0) aa rfl rfl) ?_
  refine ah (aM _ _ aa rfl rfl rfl rfl (Nat.le_of_ble_eq_true rfl) rfl) ?_
  refine ak (hK2 _ ?_)
  clear hK2;try clear K2
  refine al fun K3 hK3=> ?_
  refine al fun K4 hK4=> ?_
  refine ai ?_
  refine ah (am _ aR) ?_
  refine ah (aL (r:=false) _ _ rfl rfl (decide_eq_false ab)) ?_
  refine ah (am _ cw) ?_
  refine aI rfl rfl (am _ aR) ?_
  first
    | refine aI rfl rfl (au _ aa rfl rfl rfl) ?_
    | refine aI rfl rfl (aw _ aa rfl rfl) ?_
  first
    | refine aI rfl rfl (aB _ aa rfl rfl dt) ?_
    | refine aI rfl rfl (aH _ aa rfl rfl (by first | rfl | exact an _ _ ab | exact ar _ _ ab | assumption | exact an _ _ ab) rfl) ?_
  refine aI rfl rfl (bl _ aa rfl) ?_
  refine aI rfl rfl (dM (r:=false) _ _ rfl rfl (decide_eq_false ab)) ?_
  refine ah (bu _ _ _ rfl cw) ?_
  refine ak (hK4 _ ?_)
  clear hK4;try clear K4
  refine cq rfl rfl ?_
  refine aT (hK3 _ ?_)
  clear hK3;try clear K3
  refine al fun K5 hK5=> ?_
  refine bz (σ':=bi 45 [(1,_),(2,_),(6,_),(7,_)] [((6,0),_),((9,0),_),((9,1),_),((7,0),_)] [] []) (by
    refine Le.mkJ [] [] rfl ?_ ?_ trivial trivial ?_
    · exact ⟨(iV rfl),(iV rfl),(iP rfl),(iP rfl),trivial⟩
    · exact ⟨(ay rfl rfl rfl),(ay rfl rfl rfl),(ay rfl rfl rfl),(ay rfl rfl rfl),trivial⟩
    kernel_rfl) ?_
  refine ai ?_
  first
    | refine ah (au _ aa rfl rfl rfl) ?_
    | refine ah (aw _ aa rfl rfl) ?_
  first
    | refine ah (aB _ aa rfl rfl dB) ?_
    | refine ah (aH _ aa rfl rfl (by first | rfl | exact an _ _ ab | exact ar _ _ ab | assumption | exact an _ _ ab) rfl) ?_
  refine ah (am _ aR) ?_
  refine ah (am _ aR) ?_
  refine ah (bE _ aa rfl (by exact hY)) ?_
  refine ah (bO _ _ aa rfl ae (by first | (simp <;> rfl) | (simp;exact ⟨rfl,rfl⟩) | (simp;exact ⟨rfl,rfl,rfl⟩)) ag rfl) ?_
  refine ah (cT (m:=1) (news:=gX (c,v)) (26,0) _ _ aa rfl rfl (by rw [aU]) (.sl rfl) ab rfl (dw _ (c,v)) rfl) ?_
  first
    | refine ah (au _ aa rfl rfl rfl) ?_
    | refine ah (aw _ aa rfl rfl) ?_
  refine ah (aM _ _ aa rfl rfl rfl rfl (Nat.le_of_ble_eq_true rfl) rfl) ?_
  refine ak (hK5 _ ?_)
  clear hK5;try clear K5
  refine al fun K6 hK6=> ?_
  refine al fun K7 hK7=> ?_
  refine ai ?_
  first
    | refine ah (au _ aa rfl rfl rfl) ?_
    | refine ah (aw _ aa rfl rfl) ?_
  first
    | refine ah (aB _ aa rfl rfl dB) ?_
    | refine ah (aH _ aa rfl rfl (by first | rfl | exact an _ _ ab | exact ar _ _ ab | assumption | exact an _ _ ab) rfl) ?_
  first
    | refine ah (bt _ aa rfl rfl) ?_
    | refine ah (bs _ aa rfl rfl) ?_
  first
    | refine ah (dr _ _ rfl rfl (by assumption)) ?_
    | refine ah (dr _ _ rfl rfl rfl) ?_
  refine ak (hK7 _ ?_)
  clear hK7;try clear K7
  refine fc rfl (decide_eq_true ab) ?_
  refine al fun K8 hK8=> ?_
  refine bz (σ':=bi 45 [(6,_),(7,_)] [((6,0),_),((9,0),_),((7,0),_),((26,0),_)] [] []) (by
    refine Le.mkJ [] [] rfl ?_ ?_ trivial trivial ?_
    · exact ⟨(iP rfl),(iP rfl),trivial⟩
    · exact ⟨(ay rfl rfl rfl),(ay rfl rfl rfl),(ay rfl rfl rfl),(ay rfl rfl rfl),trivial⟩
    kernel_rfl) ?_
  refine dq 8 [32,33,34,35,36,37,38,39] [(9,0)] ac ac rfl (be rfl) (rfl:_=[_,_,_,_,_,_,_,_]) (rfl:_=[]) ?_
  first
    | refine ax (_,[]) (fun τ=> au _ aa rfl rfl rfl) ?_
    | refine ax (_,[]) (fun τ=> aw _ aa rfl rfl) ?_
  refine aO (rfl:_=[_]) ?_
  first
    | refine ax (_,[]) (fun τ=> aB _ aa rfl rfl dB) ?_
    | refine ax (_,[]) (fun τ=> aH _ aa rfl rfl (by first | rfl | exact an _ _ ab | exact ar _ _ ab | assumption | exact an _ _ ab) rfl) ?_
  refine aO (rfl:_=[_,_]) ?_
  first
    | refine ax (_,[]) (fun τ=> au _ aa rfl rfl rfl) ?_
    | refine ax (_,[]) (fun τ=> aw _ aa rfl rfl) ?_
  refine aO (rfl:_=[_,_,_]) ?_
  first
    | refine ax (_,[]) (fun τ=> aB _ aa rfl rfl dB) ?_
    | refine ax (_,[]) (fun τ=> aH _ aa rfl rfl (by first | rfl | exact an _ _ ab | exact ar _ _ ab | assumption | exact an _ _ ab) rfl) ?_
  refine aO (rfl:_=[_,_,_,_]) ?_
  refine ax (_,[]) (fun τ=> br _ _ aa rfl rfl rfl 0 rfl ab rfl) ?_
  refine aO (rfl:_=[_,_,_,_,_]) ?_
  refine ax (_,[]) (fun τ=> aD _ aa rfl rfl (by exact hia) rfl) ?_
  refine aO (rfl:_=[_,_,_,_,_,_]) ?_
  refine ax (_,[]) (fun τ=> bO _ _ aa rfl ae (by simp <;> rfl) ag (by exact (rfl:_=some (cN [w])))) ?_
  refine aO (rfl:_=[_,_,_,_,_,_,_]) ?_
  refine ax (_,[((9,0),_)]) (fun τ=> (bA aa [((0,9),(9,0))] ?_ (hap) ⟨⟨rfl,⟨_,rfl, .rowE rfl⟩,rfl⟩,trivial⟩ ⟨rfl,trivial⟩ ⟨rfl,trivial⟩ rfl rfl ac ac)) ?_
  · repeat' (first | exact aW | refine aQ ?_ ?_ | exact Lv.v | exact bd (by assumption) | exact bd ab | exact Lv.sl | exact Lv.fp | exact Lv.nil | exact aC rfl rfl | exact aZ rfl | refine Lv.agg rfl ?_ | refine Lv.fn rfl ?_ rfl ?_ | refine Lv.ifc ?_ | exact ap | refine aj ?_ ?_)
  refine aO (rfl:_=[_,_,_,_,_,_,_,_]) ?_
  refine cJ ⟨rfl,?_⟩
  refine ak (hK8 _ ?_)
  clear hK8;try clear K8
  refine ai ?_
  first
    | refine ah (au _ aa rfl rfl rfl) ?_
    | refine ah (aw _ aa rfl rfl) ?_
  first
    | refine ah (aB _ aa rfl rfl dB) ?_
    | refine ah (aH _ aa rfl rfl (by first | rfl | exact an _ _ ab | exact ar _ _ ab | assumption | exact an _ _ ab) rfl) ?_
  refine ah (ju _ _ _ aa rfl rfl 1 (d.pend.length+1) (.lit rfl rfl) .dflt ab ab rfl (Nat.add_sub_cancel _ 1)) ?_
  first
    | refine ah (au _ aa rfl rfl rfl) ?_
    | refine ah (aw _ aa rfl rfl) ?_
  refine ah (aM _ _ aa rfl rfl rfl rfl (Nat.le_of_ble_eq_true rfl) rfl) ?_
  refine ak (hK6 _ ?_)
  clear hK6;try clear K6
  refine al fun K9 hK9=> ?_
  refine ai ?_
  first
    | refine ah (aE _ aa rfl rfl rfl rfl) ?_
    | refine ah (aD _ aa rfl rfl (by first | rfl | assumption) rfl) ?_
    | refine ah (aA _ aa rfl (by first | rfl | assumption) rfl) ?_
  refine ah (aM _ _ aa rfl rfl rfl rfl (Nat.le_of_ble_eq_true rfl) rfl) ?_
  refine ak (hK9 _ ?_)
  clear hK9;try clear K9
  refine bp ?_
  exact bS (.inr rfl) rfl (.cellA aa rfl rfl rfl) (Le.out [((0,8),(9,0)),((1,8),(26,0))] [] (.agg rfl (aj (aC rfl rfl) (aj (aC rfl rfl) ap))) rfl rfl rfl trivial ⟨⟨rfl,⟨_,rfl, .rowE (by rw [ht])⟩,rfl⟩,⟨rfl,⟨_,rfl, .rowE rfl⟩,rfl⟩,trivial⟩)
theorem fh (d:Dk) (hg:DkG d) (c v:Int): ∃ (l:List PV) (off m:Nat) (xs:List PV),l.length=d.cells.length∧off+m*2≤xs.length∧m≤4∧
    Spec Try.prog 7 (bq [cm d, .v (.int .i64 c), .v (.int .i64 v)] []) (bc (.agg [.ref (0,8) 0 d.cells.length, .ref (1,8) off m]) [((0,8), .row 3 1 l),((1,8), .row 35 2 xs)]):=by
  have g1:=hg.n
  have g2:=hg.m
  by_cases h0:c < 0
  · exact ⟨_,_,_,_,aF _,by rw [aU];omega,g2,iN d ab ab c v h0⟩
  by_cases hb:(d.cells.length:Int)≤c
  · exact ⟨_,_,_,_,aF _,by rw [aU];omega,g2,iG d ab ab c v ab hb⟩
  by_cases hr:4 < d.pend.length+1
  · exact ⟨_,_,_,_,by rw [aF,bF],by rw [aU];simp;omega,g2,ic d ab ab c v hg.ok ab ab hr⟩
  exact ⟨_,_,_,_,aF _,by rw [aU];simp,by omega,gY d ab ab c v ab ab ab⟩

theorem jK (l:List (Int×Int)) (k:Nat) (h:k < l.length) (j:Nat) (hj:j < 2):(cN l)[k*2+j]? =(gX (l.getD k (0,0)))[j]? :=by
  have e:l.getD k (0,0)=l[k]:=by rw [List.getD_eq_getElem?_getD,List.getElem?_eq_getElem h];rfl
  rw [e];exact kL gX 2 (fun _=> rfl) l k j h hj
theorem dP (c:List Int) (l:List (Int×Int)) (h1:c.length≤1000000) (h2:l.length≤1000000) (ho: ∀ w∈l,0≤w.1∧w.1 < (c.length:Int)):
    Spec Try.prog 67 (bq [.sl c.length (bG c), .sl l.length (cN l)] []) (bc (.ref (0,8) 0 c.length) [((0,8), .row 3 1 (bG (dZ c l)))]):=by
  refine Spec.ofN Try.func67 rfl Try.ntmps67 rfl ?_
  refine al fun K1 hK1=> ?_
  refine ai ?_
  first
    | refine ah (az _ dz) ?_
    | refine ah (az _ bV) ?_
    | refine ah (az _ iU) ?_
    | refine ah (az _ (rfl:_=AV.z)) ?_
  refine ak (hK1 _ ?_)
  clear hK1;try clear K1
  refine al fun K2 hK2=> ?_
  refine ai ?_
  refine ah (kg (7,0) _ _ aa rfl ae (by first | (simp <;> rfl) | (simp;exact ⟨rfl,rfl⟩) | (simp;exact ⟨rfl,rfl,rfl⟩)) ag rfl rfl) ?_
  refine ah (am _ dz) ?_
  refine ah (cT (9,0) _ _ aa rfl rfl rfl (.sl (by rw [aF,Nat.mul_one])) ab rfl (List.nil_append _) (Nat.zero_add _)) ?_
  refine ah (az _ bV) ?_
  refine ak (hK2 _ ?_)
  clear hK2;try clear K2
  refine al fun K3 hK3=> ?_
  refine al fun K4 hK4=> ?_
  refine ai ?_
  refine ah (az _ aR) ?_
  refine ak (hK4 _ ?_)
  clear hK4;try clear K4
  refine aN ?_
  refine bn (α:=Nat) (fun k=> k≤l.length) 29 [(1,_),(5,_)] [] (fun k=> [(6, .v (.int .i64 (k:Int)))]) (fun k=> [((9,0), .row 3 1 (bG (dZ c (l.take k))))]) [] [] (fun k=> l.length - k) 0 ?_ (by
    refine Le.mkJ [] [] rfl ?_ ?_ trivial trivial ?_
    · exact ⟨(iS rfl),(iR rfl),(bd (by first | rfl | omega | (simp;done) | (simp;omega) | assumption)),trivial⟩
    · exact ⟨(bJ rfl rfl rfl (by first | rfl | omega | (simp;done) | (simp;omega) | assumption)),trivial⟩
    kernel_rfl) ?_
  · first | omega | trivial | exact ⟨by omega,by omega⟩
  intro k hk
  refine al fun K5 hK5=> ?_
  refine al fun K6 hK6=> ?_
  refine ai ?_
  refine ah (am _ aR) ?_
  refine ah (am _ dz) ?_
  refine ah (bl _ aa rfl) ?_
  first
    | refine ah (aL _ _ rfl rfl (by assumption)) ?_
    | refine ah (aL _ _ rfl rfl rfl) ?_
  refine ak (hK6 _ ?_)
  clear hK6;try clear K6
  refine aY rfl (fun hc13=> ?_) (fun hc13=> ?_)
  · skip
    have g:=jK l k ab
    have hm:l.getD k (0,0)∈l:=by rw [List.getD_eq_getElem?_getD,List.getElem?_eq_getElem ab];exact List.getElem_mem _
    obtain ⟨q1,q2⟩:=ho _ hm
    have q3:=gD c l (k:=k) ab
    generalize l.getD k (0,0)=w at g q1 q2 q3
    obtain ⟨i,hi⟩:=Int.eq_ofNat_of_zero_le q1
    rw [hi,Int.toNat_natCast] at q3
    have q4:(dZ c (l.take k)).length=c.length:=bF _ _
    refine aT (hK5 _ ?_)
    clear hK5;try clear K5
    refine al fun K7 hK7=> ?_
    refine aN ?_
    refine bz (σ':=bi 29 [(1,_),(5,_),(6,_)] [((9,0),_)] [] []) (by
      refine Le.mkJ [] [] rfl ?_ ?_ trivial trivial ?_
      · exact ⟨(iS rfl),(iR rfl),(iV rfl),trivial⟩
      · exact ⟨(ay rfl rfl rfl),trivial⟩
      kernel_rfl) ?_
    refine dq 12 [16,17,18,19,20,21,22,23,24,25,26,27] [] ac ac rfl (be rfl) (rfl:_=[_,_,_,_,_,_,_,_,_,_,_,_]) (rfl:_=[_]) ?_
    refine ax (_,[]) (fun τ=> am _ bV) ?_
    refine aO (rfl:_=[_]) ?_
    refine ax (_,[]) (fun τ=> am _ dz) ?_
    refine aO (rfl:_=[_,_]) ?_
    refine ax (_,[]) (fun τ=> am _ aR) ?_
    refine aO (rfl:_=[_,_,_]) ?_
    first
      | refine ax (_,[]) (fun τ=> bB _ _ aa rfl rfl _ rfl ab (by first | assumption | decide | (simp only [aF,aV,bm,aF,aU,aV];omega) | (simp;done) | (simp;omega) | (simp [bG,cA];omega)) (by first | exact Nat.mul_one _ | rfl | omega)) ?_
      | refine ax (_,[]) (fun τ=> bB _ _ aa rfl rfl (Int.toNat _) (Int.toNat_of_nonneg ab).symm ab (by first | assumption | decide | (simp only [aF,aV,bm,aF,aU,aV];omega) | (simp;done) | (simp;omega) | (simp [bG,cA];omega)) (by first | exact Nat.mul_one _ | rfl | omega)) ?_
    refine aO (rfl:_=[_,_,_,_]) ?_
    first
      | refine ax (_,[]) (fun τ=> au _ aa rfl rfl rfl) ?_
      | refine ax (_,[]) (fun τ=> aw _ aa rfl rfl) ?_
    refine aO (rfl:_=[_,_,_,_,_]) ?_
    refine ax (_,[]) (fun τ=> ei _ aa rfl (by exact g 0 ab) rfl) ?_
    refine aO (rfl:_=[_,_,_,_,_,_]) ?_
    refine ax (_,[]) (fun τ=> am _ dz) ?_
    refine aO (rfl:_=[_,_,_,_,_,_,_]) ?_
    refine ax (_,[]) (fun τ=> am _ aR) ?_
    refine aO (rfl:_=[_,_,_,_,_,_,_,_]) ?_
    first
      | refine ax (_,[]) (fun τ=> bB _ _ aa rfl rfl _ rfl ab (by first | assumption | decide | (simp only [aF,aV,bm,aF,aU,aV];omega) | (simp;done) | (simp;omega) | (simp [bG,cA];omega)) (by first | exact Nat.mul_one _ | rfl | omega)) ?_
      | refine ax (_,[]) (fun τ=> bB _ _ aa rfl rfl (Int.toNat _) (Int.toNat_of_nonneg ab).symm ab (by first | assumption | decide | (simp only [aF,aV,bm,aF,aU,aV];omega) | (simp;done) | (simp;omega) | (simp [bG,cA];omega)) (by first | exact Nat.mul_one _ | rfl | omega)) ?_
    refine aO (rfl:_=[_,_,_,_,_,_,_,_,_]) ?_
    first
      | refine ax (_,[]) (fun τ=> au _ aa rfl rfl rfl) ?_
      | refine ax (_,[]) (fun τ=> aw _ aa rfl rfl) ?_
    refine aO (rfl:_=[_,_,_,_,_,_,_,_,_,_]) ?_
    refine ax (_,[]) (fun τ=> ei _ aa rfl (by exact g 1 ab) rfl) ?_
    refine aO (rfl:_=[_,_,_,_,_,_,_,_,_,_,_]) ?_
    refine ax (_,[]) (fun τ=> br _ _ aa rfl rfl rfl i hi ab (by exact (Nat.zero_add _).trans (Nat.mul_one _))) ?_
    refine aO (rfl:_=[_,_,_,_,_,_,_,_,_,_,_,_]) ?_
    refine cJ ⟨rfl,?_⟩
    refine ah (cz _ _ aa rfl rfl rfl rfl rfl (by rw [aF];simp only [List.length_cons,List.length_nil];omega) ((iq _ _ _ ab).trans (congrArg bG q3.symm))) ?_
    refine ak (hK7 _ ?_)
    clear hK7;try clear K7
    refine ai ?_
    refine ah (am _ aR) ?_
    first
      | refine ah (aK _ _ rfl rfl (bQ ab)) ?_
      | refine ah (aK _ _ rfl rfl rfl) ?_
    refine ah (az _ aR) ?_
    refine ak ?_
    refine ⟨k+1,?_,?_,?_⟩
    · first | omega | trivial | exact ⟨by omega,by omega⟩
    · skip
      refine Le.mkJ [] [] rfl ?_ ?_ trivial trivial ?_
      · exact ⟨(iS rfl),(iR rfl),(bd (by first | rfl | omega | (simp;done) | (simp;omega) | assumption)),trivial⟩
      · exact ⟨(bJ rfl rfl rfl (by first | rfl | omega | (simp;done) | (simp;omega) | assumption)),trivial⟩
      kernel_rfl
    omega
  refine bv ?_
  refine id (hK3 _ ?_)
  clear hK3;try clear K3
  refine al fun K8 hK8=> ?_
  refine ai ?_
  refine ah (am _ bV) ?_
  refine ah (az _ bV) ?_
  refine ak (hK8 _ ?_)
  clear hK8;try clear K8
  refine bp ?_
  exact bS (.inr rfl) rfl (.tmp bV) (Le.out [((0,8),(9,0))] [] (aC rfl rfl) rfl rfl rfl trivial ⟨⟨rfl,⟨_,rfl, .rowE (by rw [List.take_of_length_le ab])⟩,rfl⟩,trivial⟩)
theorem fo (d:Dk) (h1:d.cells.length≤1000000) (h2:d.pend.length≤1000000) (ho:el d):
    Spec Try.prog 66 (bq [cm d] []) (bc (.ref (0,8) 0 d.cells.length) [((0,8), .row 3 1 (bG d.view))]):=by
  have ha:=dP d.cells d.pend h1 h2 ho
  refine Spec.ofN Try.func66 rfl Try.ntmps66 rfl ?_
  refine al fun K1 hK1=> ?_
  refine ai ?_
  refine ah (bC (1,0) _ rfl rfl) ?_
  first
    | refine ah (az _ dz) ?_
    | refine ah (az _ bV) ?_
    | refine ah (az _ iU) ?_
    | refine ah (az _ (rfl:_=AV.z)) ?_
  refine ak (hK1 _ ?_)
  clear hK1;try clear K1
  refine al fun K2 hK2=> ?_
  refine ai ?_
  first
    | refine ah (au _ aa rfl rfl rfl) ?_
    | refine ah (aw _ aa rfl rfl) ?_
  first
    | refine ah (aB _ aa rfl rfl dt) ?_
    | refine ah (aH _ aa rfl rfl (by first | rfl | exact an _ _ ab | exact ar _ _ ab | assumption | exact an _ _ ab | exact ar _ _ ab) rfl) ?_
  first
    | refine ah (au _ aa rfl rfl rfl) ?_
    | refine ah (aw _ aa rfl rfl) ?_
  first
    | refine ah (aB _ aa rfl rfl dt) ?_
    | refine ah (aH _ aa rfl rfl (by first | rfl | exact an _ _ ab | exact ar _ _ ab | assumption | exact an _ _ ab | exact ar _ _ ab) rfl) ?_
  refine ah (bA aa [((0,8),(7,0))] ?_ (ha.toI) trivial ⟨rfl,trivial⟩ ⟨rfl,trivial⟩ rfl rfl ac ac) ?_
  · repeat' (first | exact aW | refine aQ ?_ ?_ | exact Lv.v | exact bd (by assumption) | exact bd ab | exact Lv.sl | exact Lv.fp | exact Lv.nil | exact aC rfl rfl | exact aZ rfl | refine Lv.agg rfl ?_ | refine Lv.fn rfl ?_ rfl ?_ | refine Lv.ifc ?_ | exact ap | refine aj ?_ ?_)
  refine ah (az _ bV) ?_
  refine ak (hK2 _ ?_)
  clear hK2;try clear K2
  refine bp ?_
  exact bS (.inr rfl) rfl (.tmp bV) (Le.out [((0,8),(7,0))] [] (aC rfl rfl) rfl rfl rfl trivial ⟨⟨rfl,⟨_,rfl, .rowE rfl⟩,rfl⟩,trivial⟩)
theorem hX (d:Dk) (h1:d.cells.length≤1000000) (h2:d.pend.length≤1000000) (ho:el d):
    Spec Try.prog 30 (bq [cm d] []) (bc (cm d.sync) []):=by
  have hv:=fo d h1 h2 ho
  have hl:d.sync.cells.length=d.cells.length:=bF _ _
  refine Spec.ofN Try.func30 rfl Try.ntmps30 rfl ?_
  refine al fun K1 hK1=> ?_
  refine ai ?_
  refine ah (bC (1,0) _ rfl rfl) ?_
  refine ah (aP (2,0) aa rfl rfl) ?_
  refine ak (hK1 _ ?_)
  clear hK1;try clear K1
  refine al fun K2 hK2=> ?_
  refine ai ?_
  first
    | refine ah (aE _ aa rfl rfl rfl rfl) ?_
    | refine ah (aD _ aa rfl rfl (by first | rfl | assumption | exact bM _ _ ab) rfl) ?_
    | refine ah (aA _ aa rfl (by first | rfl | assumption | exact bM _ _ ab) rfl) ?_
  refine ah (bA aa [((0,8),(4,0))] ?_ (hv.toI) trivial ⟨rfl,trivial⟩ ⟨rfl,trivial⟩ rfl rfl ac ac) ?_
  · repeat' (first | exact aW | refine aQ ?_ ?_ | exact Lv.v | exact bd (by assumption) | exact bd ab | exact Lv.sl | exact Lv.fp | exact Lv.nil | exact aC rfl rfl | exact aZ rfl | refine Lv.agg rfl ?_ | refine Lv.fn rfl ?_ rfl ?_ | refine Lv.ifc ?_ | exact ap | refine aj ?_ ?_)
  refine ah (bE _ aa rfl (by exact hY)) ?_
  refine ah (aM _ _ aa rfl rfl rfl rfl (Nat.le_of_ble_eq_true rfl) rfl) ?_
  refine ak (hK2 _ ?_)
  clear hK2;try clear K2
  refine bp ?_
  exact bS (.inr rfl) rfl (.cellA aa rfl rfl rfl) (Le.out [] [(4,0)] (.agg rfl (aj (iO rfl rfl hl.symm rfl) (aj .nil ap))) rfl rfl rfl ⟨rfl,trivial⟩ trivial)
theorem hG (d:Dk) (c v:Int) (h1:d.cells.length≤1000000) (hc:c < 0∨(d.cells.length:Int)≤c):
    Spec Try.prog 33 (bq [cm d, .v (.int .i64 c), .v (.int .i64 v)] []) (bc (cm (d.write c v)) []):=by
  have e:d.write c v=d:=by unfold Dk.write;exact if_pos hc
  rw [e]
  rcases hc with hc | hc
  · skip
    refine Spec.ofN Try.func33 rfl Try.ntmps33 rfl ?_
    refine al fun K1 hK1=> ?_
    refine ai ?_
    refine ah (bC (3,0) _ rfl rfl) ?_
    refine ah (aP (6,0) aa rfl rfl) ?_
    refine ak (hK1 _ ?_)
    clear hK1;try clear K1
    refine al fun K2 hK2=> ?_
    refine al fun K3 hK3=> ?_
    refine ai ?_
    refine ah (am _ aR) ?_
    refine ah (aL (r:=true) _ _ rfl rfl (decide_eq_true hc)) ?_
    refine ah (am _ cw) ?_
    refine bP rfl rfl ag ?_
    refine bP rfl rfl ag ?_
    refine bP rfl rfl ag ?_
    refine bP rfl rfl ag ?_
    refine bP rfl rfl ag ?_
    refine ah (bu _ _ _ rfl cw) ?_
    refine ak (hK3 _ ?_)
    clear hK3;try clear K3
    refine fc rfl rfl ?_
    refine al fun K4 hK4=> ?_
    refine ai ?_
    first
      | refine ah (aE _ aa rfl rfl rfl rfl) ?_
      | refine ah (aD _ aa rfl rfl (by first | rfl | assumption | exact bM _ _ ab) rfl) ?_
      | refine ah (aA _ aa rfl (by first | rfl | assumption | exact bM _ _ ab) rfl) ?_
    refine ah (aM _ _ aa rfl rfl rfl rfl (Nat.le_of_ble_eq_true rfl) rfl) ?_
    refine ak (hK4 _ ?_)
    clear hK4;try clear K4
    refine bp ?_
    exact bS (.inr rfl) rfl (.cellA aa rfl rfl rfl) (Le.out [] [] (.agg rfl (aj .sl (aj .sl ap))) rfl rfl rfl trivial trivial)
  refine Spec.ofN Try.func33 rfl Try.ntmps33 rfl ?_
  refine al fun K1 hK1=> ?_
  refine ai ?_
  refine ah (bC (3,0) _ rfl rfl) ?_
  refine ah (aP (6,0) aa rfl rfl) ?_
  refine ak (hK1 _ ?_)
  clear hK1;try clear K1
  refine al fun K2 hK2=> ?_
  refine al fun K3 hK3=> ?_
  refine ai ?_
  refine ah (am _ aR) ?_
  refine ah (aL (r:=false) _ _ rfl rfl (decide_eq_false ab)) ?_
  refine ah (am _ cw) ?_
  refine aI rfl rfl (am _ aR) ?_
  first
    | refine aI rfl rfl (au _ aa rfl rfl rfl) ?_
    | refine aI rfl rfl (aw _ aa rfl rfl) ?_
  first
    | refine aI rfl rfl (aB _ aa rfl rfl dt) ?_
    | refine aI rfl rfl (aH _ aa rfl rfl (by first | rfl | exact an _ _ ab | exact ar _ _ ab | assumption | exact an _ _ ab | exact ar _ _ ab) rfl) ?_
  refine aI rfl rfl (bl _ aa rfl) ?_
  refine aI rfl rfl (dM (r:=true) _ _ rfl rfl (decide_eq_true ab)) ?_
  refine ah (bu _ _ _ rfl cw) ?_
  refine ak (hK3 _ ?_)
  clear hK3;try clear K3
  refine fc rfl rfl ?_
  refine al fun K4 hK4=> ?_
  refine ai ?_
  first
    | refine ah (aE _ aa rfl rfl rfl rfl) ?_
    | refine ah (aD _ aa rfl rfl (by first | rfl | assumption | exact bM _ _ ab) rfl) ?_
    | refine ah (aA _ aa rfl (by first | rfl | assumption | exact bM _ _ ab) rfl) ?_
  refine ah (aM _ _ aa rfl rfl rfl rfl (Nat.le_of_ble_eq_true rfl) rfl) ?_
  refine ak (hK4 _ ?_)
  clear hK4;try clear K4
  refine bp ?_
  exact bS (.inr rfl) rfl (.cellA aa rfl rfl rfl) (Le.out [] [] (.agg rfl (aj .sl (aj .sl ap))) rfl rfl rfl trivial trivial)
theorem iI (d:Dk) (c v:Int) (h1:d.cells.length≤1000000) (h2:d.pend.length≤1000000) (ho:el d) (hc:0≤c∧c < (d.cells.length:Int)):
    Spec Try.prog 33 (bq [cm d, .v (.int .i64 c), .v (.int .i64 v)] []) (bc (cm (d.write c v)) []):=by
  have e:d.write c v=if 4 < d.pend.length+1 then ⟨dZ d.cells ((d.pend++[(c,v)]).take 1),(d.pend++[(c,v)]).drop 1⟩ else ⟨d.cells,d.pend++[(c,v)]⟩:=by unfold Dk.write;exact if_neg ab
  have hpl:(d.pend++[(c,v)]).length=d.pend.length+1:=by simp
  have hl1:((d.pend++[(c,v)]).take 1).length=1:=by rw [List.length_take];omega
  have hin: ∀ w∈(d.pend++[(c,v)]).take 1,0≤w.1∧w.1 < (d.cells.length:Int):=fun w hw=> by
    rcases List.mem_append.1 (List.mem_of_mem_take hw) with hw | hw
    · exact ho w hw
    rw [List.mem_singleton.1 hw];exact hc
  have ha:=dP d.cells ((d.pend++[(c,v)]).take 1) h1 ab hin
  rw [hl1] at ha
  have q2:=dw d.pend (c,v)
  have hal:(dZ d.cells ((d.pend++[(c,v)]).take 1)).length=d.cells.length:=bF _ _
  have hd1:(cN (d.pend++[(c,v)])).drop 2=cN ((d.pend++[(c,v)]).drop 1):=gu gX 2 (fun _=> rfl) (d.pend++[(c,v)]) 1
  have ht1:(cN (d.pend++[(c,v)])).take 2=cN ((d.pend++[(c,v)]).take 1):=jc gX 2 (fun _=> rfl) (d.pend++[(c,v)]) 1
  refine Spec.ofN Try.func33 rfl Try.ntmps33 rfl ?_
  refine al fun K1 hK1=> ?_
  refine ai ?_
  refine ah (bC (3,0) _ rfl rfl) ?_
  refine ah (aP (6,0) aa rfl rfl) ?_
  refine ak (hK1 _ ?_)
  clear hK1;try clear K1
  refine al fun K2 hK2=> ?_
  refine al fun K3 hK3=> ?_
  refine ai ?_
  refine ah (am _ aR) ?_
  refine ah (aL (r:=false) _ _ rfl rfl (decide_eq_false ab)) ?_
  refine ah (am _ cw) ?_
  refine aI rfl rfl (am _ aR) ?_
  first
    | refine aI rfl rfl (au _ aa rfl rfl rfl) ?_
    | refine aI rfl rfl (aw _ aa rfl rfl) ?_
  first
    | refine aI rfl rfl (aB _ aa rfl rfl dt) ?_
    | refine aI rfl rfl (aH _ aa rfl rfl (by first | rfl | exact an _ _ ab | exact ar _ _ ab | assumption | exact an _ _ ab | exact ar _ _ ab) rfl) ?_
  refine aI rfl rfl (bl _ aa rfl) ?_
  refine aI rfl rfl (dM (r:=false) _ _ rfl rfl (decide_eq_false ab)) ?_
  refine ah (bu _ _ _ rfl cw) ?_
  refine ak (hK3 _ ?_)
  clear hK3;try clear K3
  refine cq rfl rfl ?_
  refine aT (hK2 _ ?_)
  clear hK2;try clear K2
  refine al fun K4 hK4=> ?_
  refine ai ?_
  refine ah (kg (18,0) _ _ aa rfl ae (by first | (simp <;> rfl) | (simp;exact ⟨rfl,rfl⟩) | (simp;exact ⟨rfl,rfl,rfl⟩)) ag rfl rfl) ?_
  first
    | refine ah (au _ aa rfl rfl rfl) ?_
    | refine ah (aw _ aa rfl rfl) ?_
  first
    | refine ah (aB _ aa rfl rfl dt) ?_
    | refine ah (aH _ aa rfl rfl (by first | rfl | exact an _ _ ab | exact ar _ _ ab | assumption | exact an _ _ ab | exact ar _ _ ab) rfl) ?_
  refine ah (cT (21,0) _ _ aa rfl rfl rfl (.sl (by rw [aU])) ab rfl (List.nil_append _) (Nat.zero_add _)) ?_
  refine ah (am _ aR) ?_
  refine ah (am _ aR) ?_
  refine ah (bE _ aa rfl (by exact hY)) ?_
  refine ah (bO (xs:=gX (c,v)) _ _ aa rfl ae (by simp <;> rfl) ag rfl) ?_
  refine ah (cT (26,0) _ _ aa rfl rfl (aU _).symm (.sl rfl) ab rfl q2 rfl) ?_
  refine ah (az _ bV) ?_
  refine ak (hK4 _ ?_)
  clear hK4;try clear K4
  refine al fun K5 hK5=> ?_
  refine al fun K6 hK6=> ?_
  refine bz (Le.frzS (ys:=cN (d.pend++[(c,v)])) 7 bV rfl rfl (by rw [List.drop_zero,List.take_of_length_le (by rw [aU,hpl];exact Nat.le_refl _)]) (by rw [aU,hpl,Nat.zero_add];exact Nat.le_refl _)) ?_
  refine ai ?_
  refine ah (am _ dz) ?_
  refine ah (bl _ aa rfl) ?_
  first
    | refine ah (dr _ _ rfl rfl (by assumption)) ?_
    | refine ah (dr _ _ rfl rfl rfl) ?_
  refine ak (hK6 _ ?_)
  clear hK6;try clear K6
  refine aY rfl (fun hc29=> ?_) (fun hc29=> ?_)
  · skip
    rw [if_pos ab] at e
    refine al fun K7 hK7=> ?_
    refine bz (σ':=bi 42 [(3,_),(6,_),(7,_)] [((3,0),_),((6,0),_)] [] []) (by
      refine Le.mkJ [] [] rfl ?_ ?_ trivial trivial ?_
      · exact ⟨(iP rfl),(iP rfl),(iS rfl),trivial⟩
      · exact ⟨(ay rfl rfl rfl),(ay rfl rfl rfl),trivial⟩
      kernel_rfl) ?_
    refine dq 8 [30,31,32,33,34,35,36,37] [(34,0)] ac ac rfl (be rfl) (rfl:_=[_,_,_,_,_,_,_,_]) (rfl:_=[_]) ?_
    first
      | refine ax (_,[]) (fun τ=> au _ aa rfl rfl rfl) ?_
      | refine ax (_,[]) (fun τ=> aw _ aa rfl rfl) ?_
    refine aO (rfl:_=[_]) ?_
    first
      | refine ax (_,[]) (fun τ=> aB _ aa rfl rfl dt) ?_
      | refine ax (_,[]) (fun τ=> aH _ aa rfl rfl (by first | rfl | exact an _ _ ab | exact ar _ _ ab | assumption | exact an _ _ ab | exact ar _ _ ab) rfl) ?_
    refine aO (rfl:_=[_,_]) ?_
    refine ax (_,[]) (fun τ=> am _ dz) ?_
    refine aO (rfl:_=[_,_,_]) ?_
    refine ax (_,[]) (fun τ=> hZ (ys:=cN ((d.pend++[(c,v)]).take 1)) _ _ _ aa rfl 0 1 .dflt (.lit rfl rfl) ab ab (by rw [Nat.zero_mul,List.drop_zero];exact ht1) rfl) ?_
    refine aO (rfl:_=[_,_,_,_]) ?_
    refine ax (_,[((34,0),_)]) (fun τ=> (bA aa [((0,8),(34,0))] ?_ (ha.toI) trivial ⟨rfl,trivial⟩ ⟨rfl,trivial⟩ rfl rfl ac ac)) ?_
    · repeat' (first | exact aW | refine aQ ?_ ?_ | exact Lv.v | exact bd (by assumption) | exact bd ab | exact Lv.sl | exact Lv.fp | exact Lv.nil | exact aC rfl rfl | exact aZ rfl | refine Lv.agg rfl ?_ | refine Lv.fn rfl ?_ rfl ?_ | refine Lv.ifc ?_ | exact ap | refine aj ?_ ?_)
    refine aO (rfl:_=[_,_,_,_,_]) ?_
    refine ax (_,[]) (fun τ=> am _ dz) ?_
    refine aO (rfl:_=[_,_,_,_,_,_]) ?_
    refine ax (_,[]) (fun τ=> hZ (ys:=cN ((d.pend++[(c,v)]).drop 1)) _ _ _ aa rfl 1 (d.pend.length+1) (.lit rfl rfl) .dflt ab ab (by rw [List.take_of_length_le (by rw [List.length_drop,aU,hpl];omega)];exact hd1) rfl) ?_
    refine aO (rfl:_=[_,_,_,_,_,_,_]) ?_
    refine ax (_,[]) (fun τ=> bE _ aa rfl (by exact (rfl:_=some [AV.ref (34,0) 0 d.cells.length,AV.sl _ _]))) ?_
    refine aO (rfl:_=[_,_,_,_,_,_,_,_]) ?_
    refine cJ ⟨rfl,?_⟩
    refine ah (aM _ _ aa rfl rfl rfl rfl (Nat.le_of_ble_eq_true rfl) rfl) ?_
    refine ak (hK7 _ ?_)
    clear hK7;try clear K7
    refine bp ?_
    exact bS (.inr rfl) rfl (.cellA aa rfl rfl rfl) (Le.out [] [(34,0)] (.agg rfl (aj (iO rfl rfl (by rw [e];exact hal.symm) (by rw [e]) (by rw [e])) (aj (cb (by rw [e];simp) (by rw [e])) ap))) rfl rfl rfl ⟨rfl,trivial⟩ trivial)
  rw [if_neg ab] at e
  refine aT (hK5 _ ?_)
  clear hK5;try clear K5
  refine al fun K8 hK8=> ?_
  refine bz (σ':=bi 42 [(3,_),(6,_),(7,_)] [((3,0),_),((6,0),_)] [] []) (by
    refine Le.mkJ [] [] rfl ?_ ?_ trivial trivial ?_
    · exact ⟨(iP rfl),(iP rfl),(iS rfl),trivial⟩
    · exact ⟨(ay rfl rfl rfl),(ay rfl rfl rfl),trivial⟩
    kernel_rfl) ?_
  refine ai ?_
  first
    | refine ah (au _ aa rfl rfl rfl) ?_
    | refine ah (aw _ aa rfl rfl) ?_
  first
    | refine ah (aB _ aa rfl rfl dt) ?_
    | refine ah (aH _ aa rfl rfl (by first | rfl | exact an _ _ ab | exact ar _ _ ab | assumption | exact an _ _ ab | exact ar _ _ ab) rfl) ?_
  refine ah (am _ dz) ?_
  refine ah (bE _ aa rfl (by exact hY)) ?_
  refine ah (aM _ _ aa rfl rfl rfl rfl (Nat.le_of_ble_eq_true rfl) rfl) ?_
  refine ak (hK8 _ ?_)
  clear hK8;try clear K8
  refine bp ?_
  exact bS (.inr rfl) rfl (.cellA aa rfl rfl rfl) (Le.out [] [] (.agg rfl (aj (cb (by rw [e]) (by rw [e])) (aj (cb (by rw [e];exact hpl) (by rw [e])) ap))) rfl rfl rfl trivial trivial)
theorem gE (d:Dk) (c v:Int) (h1:d.cells.length≤1000000) (h2:d.pend.length≤1000000) (ho:el d):
    Spec Try.prog 33 (bq [cm d, .v (.int .i64 c), .v (.int .i64 v)] []) (bc (cm (d.write c v)) []):=by
  by_cases hc:c < 0∨(d.cells.length:Int)≤c
  · exact hG d c v h1 hc
  exact iI d c v h1 h2 ho ab
theorem gM: ∀ (l:List (Int×Int)) (b:List Bool) (k:Nat),b.length≤k→kept (l.take k) b=kept l b
  | [],_,_,_=> by simp
  | _::_,[],k,_=> by cases k <;> simp [kept]
  | _::_,_::_,0,h=> by simp at h
  | x::l,y::b,k+1,h=> by
    have:=gM l b k (by simpa using h)
    cases y <;> simp [kept,this]
theorem gL (d:Dk) (h1:d.cells.length≤1000000) (h2:d.pend.length≤1000000) (ho:el d) (b:List Bool) (hb:b.length≤4611686018427387904):
    Spec Try.prog 31 (bq [cm d, .sl b.length (cA b)] []) (bc (cm (d.crash b)) []):=by
  have hlz:(d.crash b).cells.length=d.cells.length:=bF _ _
  have hkl:(kept d.pend b).length≤d.pend.length:=by
    have: ∀ (l:List (Int×Int)) (b:List Bool),(kept l b).length≤l.length:=by
      intro l
      induction l with
      | nil=> intro b;cases b <;> simp [kept]
      | cons x l ih=>
        intro b
        cases b with
        | nil=> simp [kept]
        | cons y b=>
          have:=ih b
          cases y <;> simp [kept] <;> omega
    exact this _ _
  have ha:=dP d.cells (kept d.pend b) h1 ab (fun w hw=> ho w (fJ hw))
  refine Spec.ofN Try.func31 rfl Try.ntmps31 rfl ?_
  refine al fun K1 hK1=> ?_
  refine ai ?_
  refine ah (bC (2,0) _ rfl rfl) ?_
  refine ah (aP (4,0) aa rfl rfl) ?_
  refine ak (hK1 _ ?_)
  clear hK1;try clear K1
  refine al fun K2 hK2=> ?_
  refine ai ?_
  first
    | refine ah (az _ dz) ?_
    | refine ah (az _ bV) ?_
    | refine ah (az _ iU) ?_
    | refine ah (az _ (rfl:_=AV.z)) ?_
  refine ak (hK2 _ ?_)
  clear hK2;try clear K2
  refine al fun K3 hK3=> ?_
  refine al fun K4 hK4=> ?_
  refine ai ?_
  refine ah (az _ aR) ?_
  refine ak (hK4 _ ?_)
  clear hK4;try clear K4
  refine aN ?_
  refine bz (Le.nilS 5 (60,0) 35 2 rfl rfl) ?_
  refine bn (α:=Nat) (fun k=> k≤d.pend.length∧(kept (d.pend.take k) b).length≤k) 37 [(1,_),(2,_),(4,_)] [((2,0),_),((4,0),_)] (fun k=> [(5, .ref (60,0) 0 (kept (d.pend.take k) b).length),(6, .v (.int .i64 (k:Int)))]) (fun k=> [((60,0), .row 35 2 (cN (kept (d.pend.take k) b)))]) [] [] (fun k=> d.pend.length - k) 0 ?_ (by
    refine Le.mkJ [] [] rfl ?_ ?_ trivial trivial ?_
    · exact ⟨(iS rfl),(iP rfl),(iP rfl),(aC rfl (by first | rfl | omega | (simp [kept,cN]) | (simp;done) | (simp;omega) | assumption)),(bd (by first | rfl | omega | (simp [kept,cN]) | (simp;done) | (simp;omega) | assumption)),trivial⟩
    · exact ⟨(ay rfl rfl rfl),(ay rfl rfl rfl),(bJ rfl rfl rfl (by first | rfl | omega | (simp [kept,cN]) | (simp;done) | (simp;omega) | assumption)),trivial⟩
    kernel_rfl) ?_
  · exact ⟨Nat.zero_le _,by simp [kept]⟩
  intro k hk
  refine al fun K5 hK5=> ?_
  refine al fun K6 hK6=> ?_
  refine ai ?_
  refine ah (am _ aR) ?_
  first
    | refine ah (au _ aa rfl rfl rfl) ?_
    | refine ah (aw _ aa rfl rfl) ?_
  first
    | refine ah (aB _ aa rfl rfl dt) ?_
    | refine ah (aH _ aa rfl rfl (by first | rfl | exact an _ _ ab | exact ar _ _ ab | assumption | exact an _ _ ab | exact ar _ _ ab) rfl) ?_
  refine ah (bl _ aa rfl) ?_
  refine ah (aL (r:=decide ((k:Int) < (d.pend.length:Int))) _ _ rfl rfl rfl) ?_
  refine ah (am _ cw) ?_
  refine fH (fun hg12=> ?_) (fun hg12=> ?_)
  · skip
    obtain ⟨hk1,hk2⟩:=hk
    have hia:=bM d.pend k ab
    have q2:=dw (kept (d.pend.take k) b) (d.pend.getD k (0,0))
    have q0:=eK d.pend b k ab
    have qe:=gM d.pend b k
    generalize d.pend.getD k (0,0)=w at hia q0 q2
    refine aI rfl rfl (am _ aR) ?_
    refine aI rfl rfl (am _ dz) ?_
    refine aI rfl rfl (bl _ aa rfl) ?_
    refine aI rfl rfl (aL (r:=decide ((k:Int) < (b.length:Int))) _ _ rfl rfl rfl) ?_
    refine ah (bu _ _ _ rfl cw) ?_
    refine ak (hK6 _ ?_)
    clear hK6;try clear K6
    refine aY rfl (fun hc17=> ?_) (fun hc17=> ?_)
    · skip
      have hbg:=ar b k (by simpa using hc17)
      have q1:=q0 (by simpa using hc17)
      refine aT (hK5 _ ?_)
      clear hK5;try clear K5
      refine al fun K7 hK7=> ?_
      refine aN ?_
      refine al fun K8 hK8=> ?_
      refine ai ?_
      refine ah (am _ dz) ?_
      refine ah (am _ aR) ?_
      first
        | refine ah (bB _ _ aa rfl rfl _ rfl ab (by first | assumption | decide | (simp only [aF,aV,bm,aF,aU,aV];omega) | (simp;done) | (simp;omega) | (simp [bG,cA];omega)) (by first | exact Nat.mul_one _ | rfl | omega)) ?_
        | refine ah (bB _ _ aa rfl rfl (Int.toNat _) (Int.toNat_of_nonneg ab).symm ab (by first | assumption | decide | (simp only [aF,aV,bm,aF,aU,aV];omega) | (simp;done) | (simp;omega) | (simp [bG,cA];omega)) (by first | exact Nat.mul_one _ | rfl | omega)) ?_
      refine ah (ei _ aa rfl (by exact hbg) rfl) ?_
      refine ak (hK8 _ ?_)
      clear hK8;try clear K8
      refine aY rfl (fun hc23=> ?_) (fun hc23=> ?_)
      · skip
        rw [if_pos hc23] at q1
        rw [← q1] at q2
        have q3:(kept (d.pend.take (k+1)) b).length=(kept (d.pend.take k) b).length+1:=by rw [q1];simp
        refine bz (σ':=bi 37 [(1,_),(2,_),(4,_),(5,_),(6,_)] [((2,0),_),((4,0),_),((60,0),_)] [] []) (by
          refine Le.mkJ [] [] rfl ?_ ?_ trivial trivial ?_
          · exact ⟨(iS rfl),(iP rfl),(iP rfl),(iR rfl),(iV rfl),trivial⟩
          · exact ⟨(ay rfl rfl rfl),(ay rfl rfl rfl),(ay rfl rfl rfl),trivial⟩
          kernel_rfl) ?_
        refine ai ?_
        refine ah (am _ bV) ?_
        first
          | refine ah (au _ aa rfl rfl rfl) ?_
          | refine ah (aw _ aa rfl rfl) ?_
        first
          | refine ah (aB _ aa rfl rfl dt) ?_
          | refine ah (aH _ aa rfl rfl (by first | rfl | exact an _ _ ab | exact ar _ _ ab | assumption | exact an _ _ ab | exact ar _ _ ab) rfl) ?_
        refine ah (am _ aR) ?_
        first
          | refine ah (bB _ _ aa rfl rfl _ rfl ab (by first | assumption | decide | (simp only [aF,aV,bm,aF,aU,aV];omega) | (simp;done) | (simp;omega) | (simp [bG,cA];omega)) (by first | exact Nat.mul_one _ | rfl | omega)) ?_
          | refine ah (bB _ _ aa rfl rfl (Int.toNat _) (Int.toNat_of_nonneg ab).symm ab (by first | assumption | decide | (simp only [aF,aV,bm,aF,aU,aV];omega) | (simp;done) | (simp;omega) | (simp [bG,cA];omega)) (by first | exact Nat.mul_one _ | rfl | omega)) ?_
        refine ah (aA _ aa rfl (by exact hia) rfl) ?_
        refine ah (bO (xs:=gX w) _ _ aa rfl ae (by simp <;> rfl) ag rfl) ?_
        refine ah (cT (31,0) _ _ aa rfl rfl (aU _).symm (.sl rfl) ab rfl q2 rfl) ?_
        refine ah (az _ bV) ?_
        refine ak (hK7 _ ?_)
        clear hK7;try clear K7
        refine ai ?_
        refine ah (am _ aR) ?_
        first
          | refine ah (aK _ _ rfl rfl (bQ ab)) ?_
          | refine ah (aK _ _ rfl rfl rfl) ?_
        refine ah (az _ aR) ?_
        refine ak ?_
        refine ⟨k+1,?_,?_,?_⟩
        · exact ⟨by omega,by omega⟩
        · skip
          refine Le.mkJ [((60,0),(31,0))] [] rfl ?_ ?_ trivial trivial ?_
          · exact ⟨(by repeat' (first | exact Lv.v | exact Lv.sl | exact Lv.fp | exact aC (id:=(2,0)) rfl rfl | exact aZ (id:=(2,0)) rfl | exact aC (id:=(4,0)) rfl rfl | exact aZ (id:=(4,0)) rfl | exact aC (id:=(60,0)) rfl rfl | exact aZ (id:=(60,0)) rfl | exact aC rfl rfl | exact aZ rfl | exact Lv.mp | exact Lv.nil | exact Lv.z | exact Lv.dead | refine Lv.agg rfl ?_ | refine Lv.fn rfl ?_ rfl ?_ | refine Lv.tup rfl ?_ | refine Lv.ifc ?_ | exact ap | refine aj ?_ ?_)),(aZ (id:=(2,0)) rfl),(aZ (id:=(4,0)) rfl),(aC rfl (by first | rfl | omega | (rw [q1]) | (simp;done) | (simp;omega) | assumption)),(bd (by first | rfl | omega | (rw [q1]) | (simp;done) | (simp;omega) | assumption)),trivial⟩
          · exact ⟨(eA rfl rfl rfl rfl (by repeat' (first | exact Lv.v | exact Lv.sl | exact Lv.fp | exact aC (id:=(2,0)) rfl rfl | exact aZ (id:=(2,0)) rfl | exact aC (id:=(4,0)) rfl rfl | exact aZ (id:=(4,0)) rfl | exact aC (id:=(60,0)) rfl rfl | exact aZ (id:=(60,0)) rfl | exact aC rfl rfl | exact aZ rfl | exact Lv.mp | exact Lv.nil | exact Lv.z | exact Lv.dead | refine Lv.agg rfl ?_ | refine Lv.fn rfl ?_ rfl ?_ | refine Lv.tup rfl ?_ | refine Lv.ifc ?_ | exact ap | refine aj ?_ ?_))),(eA rfl rfl rfl rfl (by repeat' (first | exact Lv.v | exact Lv.sl | exact Lv.fp | exact aC (id:=(2,0)) rfl rfl | exact aZ (id:=(2,0)) rfl | exact aC (id:=(4,0)) rfl rfl | exact aZ (id:=(4,0)) rfl | exact aC (id:=(60,0)) rfl rfl | exact aZ (id:=(60,0)) rfl | exact aC rfl rfl | exact aZ rfl | exact Lv.mp | exact Lv.nil | exact Lv.z | exact Lv.dead | refine Lv.agg rfl ?_ | refine Lv.fn rfl ?_ rfl ?_ | refine Lv.tup rfl ?_ | refine Lv.ifc ?_ | exact ap | refine aj ?_ ?_))),(bJ rfl rfl rfl (by first | rfl | omega | (rw [q1]) | (simp;done) | (simp;omega) | assumption)),trivial⟩
          kernel_rfl
        omega
      rw [if_neg (by rw [hc23];exact Bool.false_ne_true),List.append_nil] at q1
      refine aT (hK7 _ ?_)
      clear hK7;try clear K7
      refine bz (σ':=bi 37 [(1,_),(2,_),(4,_),(5,_),(6,_)] [((2,0),_),((4,0),_),((60,0),_)] [] []) (by
        refine Le.mkJ [] [] rfl ?_ ?_ trivial trivial ?_
        · exact ⟨(iS rfl),(iP rfl),(iP rfl),(iR rfl),(iV rfl),trivial⟩
        · exact ⟨(ay rfl rfl rfl),(ay rfl rfl rfl),(ay rfl rfl rfl),trivial⟩
        kernel_rfl) ?_
      refine ai ?_
      refine ah (am _ aR) ?_
      first
        | refine ah (aK _ _ rfl rfl (bQ ab)) ?_
        | refine ah (aK _ _ rfl rfl rfl) ?_
      refine ah (az _ aR) ?_
      refine ak ?_
      refine ⟨k+1,?_,?_,?_⟩
      · exact ⟨by omega,by rw [q1];omega⟩
      · skip
        refine Le.mkJ [] [] rfl ?_ ?_ trivial trivial ?_
        · exact ⟨(iS rfl),(iP rfl),(iP rfl),(aC rfl (by first | rfl | omega | (rw [q1]) | (simp;done) | (simp;omega) | assumption)),(bd (by first | rfl | omega | (rw [q1]) | (simp;done) | (simp;omega) | assumption)),trivial⟩
        · exact ⟨(ay rfl rfl rfl),(ay rfl rfl rfl),(bJ rfl rfl rfl (by first | rfl | omega | (rw [q1]) | (simp;done) | (simp;omega) | assumption)),trivial⟩
        kernel_rfl
      omega
    have q1:=qe (by simpa using hc17)
    rw [q1] at hk2
    rw [q1]
    refine bv ?_
    refine id (hK3 _ ?_)
    clear hK3;try clear K3
    refine al fun K9 hK9=> ?_
    refine bz (Le.frzS (ys:=cN (kept d.pend b)) 5 bV rfl rfl (by rw [List.drop_zero,en]) (by rw [aU,Nat.zero_add];exact Nat.le_refl _)) ?_
    refine ai ?_
    first
      | refine ah (au _ aa rfl rfl rfl) ?_
      | refine ah (aw _ aa rfl rfl) ?_
    first
      | refine ah (aB _ aa rfl rfl dt) ?_
      | refine ah (aH _ aa rfl rfl (by first | rfl | exact an _ _ ab | exact ar _ _ ab | assumption | exact an _ _ ab | exact ar _ _ ab) rfl) ?_
    refine ah (am _ dz) ?_
    refine ah (bA aa [((0,8),(35,0))] ?_ (ha.toI) trivial ⟨rfl,trivial⟩ ⟨rfl,trivial⟩ rfl rfl ac ac) ?_
    · repeat' (first | exact aW | refine aQ ?_ ?_ | exact Lv.v | exact bd (by assumption) | exact bd ab | exact Lv.sl | exact Lv.fp | exact Lv.nil | exact aC rfl rfl | exact aZ rfl | refine Lv.agg rfl ?_ | refine Lv.fn rfl ?_ rfl ?_ | refine Lv.ifc ?_ | exact ap | refine aj ?_ ?_)
    refine ah (bE _ aa rfl (by exact hY)) ?_
    refine ah (aM _ _ aa rfl rfl rfl rfl (Nat.le_of_ble_eq_true rfl) rfl) ?_
    refine ak (hK9 _ ?_)
    clear hK9;try clear K9
    refine bp ?_
    exact bS (.inr rfl) rfl (.cellA aa rfl rfl rfl) (Le.out [] [(35,0)] (.agg rfl (aj (iO rfl rfl hlz.symm rfl) (aj .nil ap))) rfl rfl rfl ⟨rfl,trivial⟩ trivial)
  obtain ⟨hk1,hk2⟩:=hk
  obtain rfl:k=d.pend.length:=by omega
  rw [List.take_length] at hk2
  rw [List.take_length]
  refine bP rfl rfl ag ?_
  refine bP rfl rfl ag ?_
  refine bP rfl rfl ag ?_
  refine bP rfl rfl ag ?_
  refine ah (bu _ _ _ rfl cw) ?_
  refine ak (hK6 _ ?_)
  clear hK6;try clear K6
  refine cq rfl rfl ?_
  refine bv ?_
  refine id (hK3 _ ?_)
  clear hK3;try clear K3
  refine al fun K10 hK10=> ?_
  refine bz (Le.frzS (ys:=cN (kept d.pend b)) 5 bV rfl rfl (by rw [List.drop_zero,en]) (by rw [aU,Nat.zero_add];exact Nat.le_refl _)) ?_
  refine ai ?_
  first
    | refine ah (au _ aa rfl rfl rfl) ?_
    | refine ah (aw _ aa rfl rfl) ?_
  first
    | refine ah (aB _ aa rfl rfl dt) ?_
    | refine ah (aH _ aa rfl rfl (by first | rfl | exact an _ _ ab | exact ar _ _ ab | assumption | exact an _ _ ab | exact ar _ _ ab) rfl) ?_
  refine ah (am _ dz) ?_
  refine ah (bA aa [((0,8),(35,0))] ?_ (ha.toI) trivial ⟨rfl,trivial⟩ ⟨rfl,trivial⟩ rfl rfl ac ac) ?_
  · repeat' (first | exact aW | refine aQ ?_ ?_ | exact Lv.v | exact bd (by assumption) | exact bd ab | exact Lv.sl | exact Lv.fp | exact Lv.nil | exact aC rfl rfl | exact aZ rfl | refine Lv.agg rfl ?_ | refine Lv.fn rfl ?_ rfl ?_ | refine Lv.ifc ?_ | exact ap | refine aj ?_ ?_)
  refine ah (bE _ aa rfl (by exact hY)) ?_
  refine ah (aM _ _ aa rfl rfl rfl rfl (Nat.le_of_ble_eq_true rfl) rfl) ?_
  refine ak (hK10 _ ?_)
  clear hK10;try clear K10
  refine bp ?_
  exact bS (.inr rfl) rfl (.cellA aa rfl rfl rfl) (Le.out [] [(35,0)] (.agg rfl (aj (iO rfl rfl hlz.symm rfl) (aj .nil ap))) rfl rfl rfl ⟨rfl,trivial⟩ trivial)
theorem jr (v:List Int) (k:Nat):bG (v++List.replicate k 0)++[.v (.int .i64 0)]=bG (v++List.replicate (k+1) 0):=by
  rw [List.replicate_succ',← List.append_assoc];simp [bG]
theorem gt (d:Dk) (n:Nat) (h1:d.cells.length≤1000000) (h2:d.pend.length≤1000000) (hn:n≤1000000) (ho:el d):
    Spec Try.prog 32 (bq [cm d, .v (.int .i64 (n:Int))] []) (bc (cm (d.resize n)) []):=by
  have hv:=fo d h1 h2 ho
  have hl:(d.resize n).cells.length=n:=by simp [Dk.resize]
  have hvl:d.view.length=d.cells.length:=bF _ _
  rw [← hvl] at hv
  have hrs: ∀ k,n≤d.view.length+k→(d.view++List.replicate k 0).take n=(d.resize n).cells:=fun k hk=> by
    show _=(d.view++List.replicate n 0).take n
    rw [List.take_append,List.take_append,List.take_replicate,List.take_replicate]
    congr 2
    omega
  refine Spec.ofN Try.func32 rfl Try.ntmps32 rfl ?_
  refine al fun K1 hK1=> ?_
  refine ai ?_
  refine ah (bC (2,0) _ rfl rfl) ?_
  refine ah (aP (4,0) aa rfl rfl) ?_
  refine ak (hK1 _ ?_)
  clear hK1;try clear K1
  refine al fun K2 hK2=> ?_
  refine ai ?_
  first
    | refine ah (aE _ aa rfl rfl rfl rfl) ?_
    | refine ah (aD _ aa rfl rfl (by first | rfl | assumption | exact bM _ _ ab) rfl) ?_
    | refine ah (aA _ aa rfl (by first | rfl | assumption | exact bM _ _ ab) rfl) ?_
  refine ah (bA aa [((0,8),(7,0))] ?_ (hv.toI) trivial ⟨rfl,trivial⟩ ⟨rfl,trivial⟩ rfl rfl ac ac) ?_
  · repeat' (first | exact aW | refine aQ ?_ ?_ | exact Lv.v | exact bd (by assumption) | exact bd ab | exact Lv.sl | exact Lv.fp | exact Lv.nil | exact aC rfl rfl | exact aZ rfl | refine Lv.agg rfl ?_ | refine Lv.fn rfl ?_ rfl ?_ | refine Lv.ifc ?_ | exact ap | refine aj ?_ ?_)
  refine ah (az _ bV) ?_
  refine ak (hK2 _ ?_)
  clear hK2;try clear K2
  refine al fun K3 hK3=> ?_
  refine aN ?_
  refine bn (α:=Nat) (fun k=> k=0∨d.view.length+k≤n) 19 [(1,_),(4,_)] [((4,0),_)] (fun k=> [(5, .ref (7,0) 0 (d.view.length+k))]) (fun k=> [((7,0), .row 3 1 (bG (d.view++List.replicate k 0)))]) [] [] (fun k=> n - (d.view.length+k)) 0 ?_ (by
    refine Le.mkJ [] [] rfl ?_ ?_ trivial trivial ?_
    · exact ⟨(iV rfl),(iP rfl),(aC rfl (by first | rfl | omega | (simp) | (simp;done) | (simp;omega) | assumption)),trivial⟩
    · exact ⟨(ay rfl rfl rfl),(bJ rfl rfl rfl (by first | rfl | omega | (simp) | (simp;done) | (simp;omega) | assumption)),trivial⟩
    kernel_rfl) ?_
  · exact .inl rfl
  intro k hk
  refine al fun K4 hK4=> ?_
  refine al fun K5 hK5=> ?_
  refine ai ?_
  refine ah (am _ bV) ?_
  first
    | refine ah (bt _ aa rfl rfl) ?_
    | refine ah (bs _ aa rfl rfl) ?_
  refine ah (am _ aR) ?_
  first
    | refine ah (aL _ _ rfl rfl (by assumption)) ?_
    | refine ah (aL _ _ rfl rfl rfl) ?_
  refine ak (hK5 _ ?_)
  clear hK5;try clear K5
  refine aY rfl (fun hc11=> ?_) (fun hc11=> ?_)
  · skip
    have q2:=jr d.view k
    have q3:(d.view.length+k)*1=(bG (d.view++List.replicate k 0)).length:=by rw [aF,List.length_append,List.length_replicate,Nat.mul_one]
    refine aT (hK4 _ ?_)
    clear hK4;try clear K4
    refine aN ?_
    refine ai ?_
    refine ah (am _ bV) ?_
    refine ah (bO _ _ aa rfl ae (by first | (simp <;> rfl) | (simp;exact ⟨rfl,rfl⟩) | (simp;exact ⟨rfl,rfl,rfl⟩)) ag rfl) ?_
    refine ah (cT (14,0) _ _ aa rfl rfl q3 (.sl rfl) ab rfl q2 rfl) ?_
    refine ah (az _ bV) ?_
    refine ak ?_
    refine ⟨k+1,?_,?_,?_⟩
    · exact .inr ab
    · skip
      refine Le.mkJ [((7,0),(14,0))] [] rfl ?_ ?_ trivial trivial ?_
      · exact ⟨(by repeat' (first | exact Lv.v | exact Lv.sl | exact Lv.fp | exact aC (id:=(4,0)) rfl rfl | exact aZ (id:=(4,0)) rfl | exact aC (id:=(7,0)) rfl rfl | exact aZ (id:=(7,0)) rfl | exact aC rfl rfl | exact aZ rfl | exact Lv.mp | exact Lv.nil | exact Lv.z | exact Lv.dead | refine Lv.agg rfl ?_ | refine Lv.fn rfl ?_ rfl ?_ | refine Lv.tup rfl ?_ | refine Lv.ifc ?_ | exact ap | refine aj ?_ ?_)),(aZ (id:=(4,0)) rfl),(aC rfl (by first | rfl | omega | (simp;done) | (simp;omega) | assumption)),trivial⟩
      · exact ⟨(eA rfl rfl rfl rfl (by repeat' (first | exact Lv.v | exact Lv.sl | exact Lv.fp | exact aC (id:=(4,0)) rfl rfl | exact aZ (id:=(4,0)) rfl | exact aC (id:=(7,0)) rfl rfl | exact aZ (id:=(7,0)) rfl | exact aC rfl rfl | exact aZ rfl | exact Lv.mp | exact Lv.nil | exact Lv.z | exact Lv.dead | refine Lv.agg rfl ?_ | refine Lv.fn rfl ?_ rfl ?_ | refine Lv.tup rfl ?_ | refine Lv.ifc ?_ | exact ap | refine aj ?_ ?_))),(bJ rfl rfl rfl (by first | rfl | omega | (simp;done) | (simp;omega) | assumption)),trivial⟩
      kernel_rfl
    omega
  have q4:=hrs k ab
  have q5:((bG (d.view++List.replicate k 0)).drop (0+0*1)).take (n*1)=bG (d.resize n).cells:=by rw [← q4];simp [bG]
  refine bv ?_
  refine id (hK3 _ ?_)
  clear hK3;try clear K3
  refine al fun K6 hK6=> ?_
  refine ai ?_
  refine ah (am _ bV) ?_
  refine ah (am _ aR) ?_
  refine ah (ju _ _ _ aa rfl rfl 0 n .dflt (.lit rfl rfl) ab ab rfl rfl) ?_
  refine ah (bE _ aa rfl (by exact hY)) ?_
  refine ah (aM _ _ aa rfl rfl rfl rfl (Nat.le_of_ble_eq_true rfl) rfl) ?_
  refine ak (hK6 _ ?_)
  clear hK6;try clear K6
  refine bp ?_
  exact bS (.inr rfl) rfl (.cellA aa rfl rfl rfl) (Le.out [] [(7,0)] (.agg rfl (aj (by rw [hl];exact .frz rfl rfl q5 (by rw [aF,List.length_append,List.length_replicate];omega)) (aj .nil ap))) rfl rfl rfl ⟨rfl,trivial⟩ trivial)
theorem jk (n:Nat) (h1:n≤1000000):
    Spec Try.prog 22 (bq [.v (.int .i64 (n:Int))] []) (bc (.agg [.ref (0,8) 0 n, .v (.slice none 0 0)]) [((0,8), .row 3 1 (bG (List.replicate n 0)))]):=by
  refine Spec.ofN Try.func22 rfl Try.ntmps22 rfl ?_
  refine al fun K1 hK1=> ?_
  refine ai ?_
  refine ah (aP (2,0) aa rfl rfl) ?_
  refine ak (hK1 _ ?_)
  clear hK1;try clear K1
  refine al fun K2 hK2=> ?_
  refine ai ?_
  refine ah (am _ aR) ?_
  first
    | refine ah (gb (4,0) _ _ aa rfl rfl _ rfl rfl ab rfl rfl) ?_
    | refine ah (gb (4,0) _ _ aa rfl rfl (Int.toNat _) (Int.toNat_of_nonneg ab).symm (Int.toNat_of_nonneg ab).symm ab rfl rfl) ?_
  refine ah (bE _ aa rfl (by exact hY)) ?_
  refine ah (aM _ _ aa rfl rfl rfl rfl (Nat.le_of_ble_eq_true rfl) rfl) ?_
  refine ak (hK2 _ ?_)
  clear hK2;try clear K2
  refine bp ?_
  exact bS (.inr rfl) rfl (.cellA aa rfl rfl rfl) (Le.out [((0,8),(4,0))] [] (.agg rfl (aj (aC rfl rfl) (aj .v ap))) rfl rfl rfl trivial ⟨⟨rfl,⟨_,rfl, .rowE (by simp [bG,rep])⟩,rfl⟩,trivial⟩)
theorem iL (n:Nat) (h1:n≤1000000):Spec Try.prog 22 (bq [.v (.int .i64 (n:Int))] []) (bc (cm ⟨List.replicate n 0,[]⟩) []):=
  (jk n h1).toI.mono (Le.outO [] [(0,8)] (.agg rfl (aj (iO rfl rfl (by simp) rfl) (aj .nil ap))) rfl rfl rfl ⟨rfl,trivial⟩ trivial)
end Go.Proofs.Ytmjnackchaahbaa
