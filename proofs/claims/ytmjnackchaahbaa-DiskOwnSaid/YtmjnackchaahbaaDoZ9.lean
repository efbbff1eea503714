/- part 9 -/
import Derived.Test.YtmjnackchaahbaaDoZ8
set_option linter.unusedSimpArgs false
set_option linter.unusedVariables false
namespace Go.Proofs.Ytmjnackchaahbaa
open Go.RowKit

theorem iH (d:Dk) (h1:d.cells.length≤1000000) (h2:d.pend.length≤1000000) (ho:el d):
    Spec Try.prog 12 (bq [cm d] []) (bc (.ref (0,8) 0 d.cells.length) [((0,8), .row 3 1 (bG d.view))]):=by
  have hs:=eL d h1 h2 ho
  refine Spec.ofN Try.func12 rfl Try.ntmps12 rfl ?_
  refine al fun K1 hK1=> ?_
  refine ai ?_
  refine ah (bC (1,0) _ rfl rfl) ?_
  first
    | refine ah (az _ dz) ?_
    | refine ah (az _ bV) ?_
    | refine ah (az _ iU) ?_
    | refine ah (az _ (rfl:_=AV.z)) ?_
  refine ak (hK1 _ ?_)
  clear hK1;try clear K1
  refine al fun K2 hK2=> ?_
  refine ai ?_
  first
    | refine ah (aE _ aa rfl rfl rfl rfl) ?_
    | refine ah (aD _ aa rfl rfl (by first | rfl | assumption) rfl) ?_
    | refine ah (aA _ aa rfl (by first | rfl | assumption) rfl) ?_
  refine ah (bA aa [((0,8),(4,0))] ?_ (hs.toI) trivial ⟨rfl,trivial⟩ ⟨rfl,trivial⟩ rfl rfl ac ac) ?_
  · repeat' (first | exact aW | refine aQ ?_ ?_ | exact Lv.v | exact bd (by assumption) | exact bd ab | exact Lv.sl | exact Lv.fp | exact Lv.nil | exact aC rfl rfl | exact aZ rfl | refine Lv.agg rfl ?_ | refine Lv.fn rfl ?_ rfl ?_ | refine Lv.ifc ?_ | exact ap | refine aj ?_ ?_)
  first
    | refine ah (cS _ aa rfl dt) ?_
    | refine ah (cS _ aa rfl dB) ?_
    | refine ah (cS _ aa rfl kw) ?_
    | refine ah (cS _ aa rfl (rfl:_=some (AV.z))) ?_
    | refine ah (ie _ aa rfl rfl rfl) ?_
  refine ah (az _ bV) ?_
  refine ak (hK2 _ ?_)
  clear hK2;try clear K2
  refine bp ?_
  exact bS (.inr rfl) rfl (.tmp bV) (Le.out [((0,8),(4,0))] [] (aC rfl rfl) rfl rfl rfl trivial ⟨⟨rfl,⟨_,rfl, .rowE rfl⟩,rfl⟩,trivial⟩)
def Lq (l:List PV) (n:Nat):Prop:=l.length=n
def Rm (o m:Nat) (l:List PV):Prop:=o+m*2≤l.length
theorem Lq.put {l:List PV} {n k:Nat} {vs:List PV} (h:Lq l n) (hk:k+vs.length≤n):Lq (bZ l k vs) n:=(cg _ _ _ (by have h:l.length=n:=h;omega)).trans h
theorem Lq.fit {l:List PV} {n k:Nat} (h:Lq l n) (hk:k < n):k+1≤l.length:=by have h:l.length=n:=h;omega
theorem Rm.fit {o m:Nat} {x l:List PV} (r:Rm o m x) (h:Lq l x.length) {k:Nat} (hk:k < m):o+k*2+2≤l.length:=by have h:l.length=x.length:=h;have r:o+m*2≤x.length:=r;omega
theorem Rm.fit' {o m:Nat} {x:List PV} (r:Rm o m x) {k:Nat} (hk:k < m):o+k*2+2≤x.length:=by have r:o+m*2≤x.length:=r;omega
theorem mO {k:Nat} (h:k < 5):k=0∨k=1∨k=2∨k=3∨k=4:=by omega
set_option maxHeartbeats 4000000 in
theorem jt (d:Dk) (hg:DkG d) (cells cell value:Int) (n0:Nat) (l:List PV)
    (hb:Spec Try.prog 5 (bq [.v (.int .i64 cells), .sl n0 l] []) (bc (cm d) []))
    (hrb:Spec Try.prog 6 (bq [.v (.int .i64 cells), .sl n0 l] []) (bc (cm d) []))
    (h2: -9223372036854775808≤cell∧cell≤9223372036854775807):
    Spec Try.prog 3 (bq [.v (.int .i64 cells), .sl n0 l, .v (.int .i64 cell), .v (.int .i64 value)] []) (bc (.v (.bool true)) []):=by
  have hlv:=hD
  have gn:=hg.n
  have gm:=hg.m
  have har:=dk cell ((d.cells.length:Int)+1) ab ab h2.1 h2.2
  generalize cc cell ((d.cells.length:Int)+1)=ce at har
  obtain ⟨l0,o1,m1,x1,e0,e1,g1,hw1⟩:=fh d hg ce value
  obtain ⟨l5,o6,m6,x6,e5,e6,g6,hw2⟩:=fh d hg (-1) value
  have hs:=eL d ab ab hg.ok
  have hcr:=fk d ab ab hg.ok [true] ag
  have hrz:=eS d d.cells.length ab ab ab hg.ok
  have hvw:=iH d ab ab hg.ok
  have E0:Lq l0 d.cells.length:=e0
  have E1:Rm o1 m1 x1:=e1
  have E5:Lq l5 d.cells.length:=e5
  have E6:Rm o6 m6 x6:=e6
  have e2:Lq (bG d.view) d.cells.length:=(aF _).trans (bF _ _)
  have e3:Lq (bG (d.crash [true]).cells) d.cells.length:=(aF _).trans (bF _ _)
  have e4:Lq (bG (d.resize d.cells.length).cells) d.cells.length:=(aF _).trans (by simp [Dk.resize])
  clear e0 e1 e5 e6
  have hsm:=gU d ab ab
  generalize bG d.view=l2 at*
  generalize bG (d.crash [true]).cells=l3 at*
  generalize bG (d.resize d.cells.length).cells=l4 at*
  refine Spec.ofN Try.func3 rfl Try.ntmps3 rfl ?_
  refine al fun K1 hK1=> ?_
  refine ai ?_
  refine ah (az _ cw) ?_
  refine ak (hK1 _ ?_)
  clear hK1;try clear K1
  refine al fun K2 hK2=> ?_
  refine ai ?_
  refine ah (am _ aR) ?_
  refine ah (am _ dz) ?_
  refine ah (aX aa (by repeat' (first | exact aJ | refine aG ?_ ?_ | exact Lv.v | exact bd ab | exact Lv.sl | exact Lv.fp | exact Lv.nil | refine Lv.agg rfl ?_ | refine Lv.fn rfl ?_ rfl ?_ | exact ap | refine aj ?_ ?_ | exact Lv.z0)) (hb) rfl rfl) ?_
  refine ah (aP (9,0) aa rfl rfl) ?_
  refine ah (aM _ _ aa rfl rfl rfl rfl (Nat.le_of_ble_eq_true rfl) rfl) ?_
  refine ak (hK2 _ ?_)
  clear hK2;try clear K2
  refine al fun K3 hK3=> ?_
  refine ai ?_
  refine ah (am _ aR) ?_
  refine ah (am _ dz) ?_
  refine ah (aX aa (by repeat' (first | exact aJ | refine aG ?_ ?_ | exact Lv.v | exact bd ab | exact Lv.sl | exact Lv.fp | exact Lv.nil | refine Lv.agg rfl ?_ | refine Lv.fn rfl ?_ rfl ?_ | exact ap | refine aj ?_ ?_ | exact Lv.z0)) (hrb) rfl rfl) ?_
  refine ah (aP (10,0) aa rfl rfl) ?_
  refine ah (aM _ _ aa rfl rfl rfl rfl (Nat.le_of_ble_eq_true rfl) rfl) ?_
  refine ak (hK3 _ ?_)
  clear hK3;try clear K3
  refine al fun K4 hK4=> ?_
  refine ai ?_
  first
    | refine ah (au _ aa rfl rfl rfl) ?_
    | refine ah (aw _ aa rfl rfl) ?_
  first
    | refine ah (aB _ aa rfl rfl dt) ?_
    | refine ah (aH _ aa rfl rfl (by first | rfl | exact an _ _ ab | exact ar _ _ ab | assumption | exact an _ _ ab) rfl) ?_
  refine ah (bl _ aa rfl) ?_
  refine ah (az _ aR) ?_
  refine ak (hK4 _ ?_)
  clear hK4;try clear K4
  refine al fun K5 hK5=> ?_
  refine bz (σ':=bi 103 [(2,_),(3,_),(9,_),(10,_),(11,_)] [((9,0),_),((10,0),_)] [] []) (by
    refine Le.mkJ [] [] rfl ?_ ?_ trivial trivial ?_
    · exact ⟨(iV rfl),(iV rfl),(iP rfl),(iP rfl),(iV rfl),trivial⟩
    · exact ⟨(ay rfl rfl rfl),(ay rfl rfl rfl),trivial⟩
    kernel_rfl) ?_
  refine dq 19 [27,28,29,30,31,32,33,34,35,36,37,38,39,40,41,42,43,44,45] [(33,0),(33,1),(35,0),(38,0),(41,0),(44,0),(44,1),(45,0)] ac ac rfl (be rfl) (rfl:_=[_,_,_,_,_,_,_,_,_,_,_,_,_,_,_,_,_,_,_]) (rfl:_=[_]) ?_
  first
    | refine ax (_,[]) (fun τ=> aE _ aa rfl rfl rfl rfl) ?_
    | refine ax (_,[]) (fun τ=> aD _ aa rfl rfl (by first | rfl | assumption) rfl) ?_
    | refine ax (_,[]) (fun τ=> aA _ aa rfl (by first | rfl | assumption) rfl) ?_
  refine aO (rfl:_=[_]) ?_
  refine ax (_,[]) (fun τ=> am _ aR) ?_
  refine aO (rfl:_=[_,_]) ?_
  refine ax (_,[]) (fun τ=> am _ aR) ?_
  refine aO (rfl:_=[_,_,_]) ?_
  first
    | refine ax (_,[]) (fun τ=> aK _ _ rfl rfl (bQ ab)) ?_
    | refine ax (_,[]) (fun τ=> aK _ _ rfl rfl rfl) ?_
  refine aO (rfl:_=[_,_,_,_]) ?_
  refine ax (_,[]) (fun τ=> (aX aa (by repeat' (first | exact aJ | refine aG ?_ ?_ | exact Lv.v | exact bd ab | exact Lv.sl | exact Lv.fp | exact Lv.nil | refine Lv.agg rfl ?_ | refine Lv.fn rfl ?_ rfl ?_ | exact ap | refine aj ?_ ?_ | exact Lv.z0)) (har) rfl rfl)) ?_
  refine aO (rfl:_=[_,_,_,_,_]) ?_
  refine ax (_,[]) (fun τ=> am _ aR) ?_
  refine aO (rfl:_=[_,_,_,_,_,_]) ?_
  refine ax (_,[((33,0),_),((33,1),_)]) (fun τ=> (bA aa [((0,8),(33,0)),((1,8),(33,1))] ?_ (hw1.toI) trivial ⟨rfl,rfl,trivial⟩ ⟨rfl,rfl,trivial⟩ rfl rfl ac ac)) ?_
  · repeat' (first | exact aW | refine aQ ?_ ?_ | exact Lv.v | exact bd (by assumption) | exact bd ab | exact Lv.sl | exact Lv.fp | exact Lv.nil | exact aC rfl rfl | exact aZ rfl | refine Lv.agg rfl ?_ | refine Lv.fn rfl ?_ rfl ?_ | refine Lv.ifc ?_ | exact ap | refine aj ?_ ?_)
  refine aO (rfl:_=[_,_,_,_,_,_,_]) ?_
  first
    | refine ax (_,[]) (fun τ=> aE _ aa rfl rfl rfl rfl) ?_
    | refine ax (_,[]) (fun τ=> aD _ aa rfl rfl (by first | rfl | assumption) rfl) ?_
    | refine ax (_,[]) (fun τ=> aA _ aa rfl (by first | rfl | assumption) rfl) ?_
  refine aO (rfl:_=[_,_,_,_,_,_,_,_]) ?_
  refine ax (_,[((35,0),_)]) (fun τ=> (bA aa [((0,8),(35,0))] ?_ (hs.toI) trivial ⟨rfl,trivial⟩ ⟨rfl,trivial⟩ rfl rfl ac ac)) ?_
  · repeat' (first | exact aW | refine aQ ?_ ?_ | exact Lv.v | exact bd (by assumption) | exact bd ab | exact Lv.sl | exact Lv.fp | exact Lv.nil | exact aC rfl rfl | exact aZ rfl | refine Lv.agg rfl ?_ | refine Lv.fn rfl ?_ rfl ?_ | refine Lv.ifc ?_ | exact ap | refine aj ?_ ?_)
  refine aO (rfl:_=[_,_,_,_,_,_,_,_,_]) ?_
  first
    | refine ax (_,[]) (fun τ=> aE _ aa rfl rfl rfl rfl) ?_
    | refine ax (_,[]) (fun τ=> aD _ aa rfl rfl (by first | rfl | assumption) rfl) ?_
    | refine ax (_,[]) (fun τ=> aA _ aa rfl (by first | rfl | assumption) rfl) ?_
  refine aO (rfl:_=[_,_,_,_,_,_,_,_,_,_]) ?_
  refine ax (_,[]) (fun τ=> bO (xs:=cA [true]) _ _ aa rfl ae (by simp <;> rfl) ag rfl) ?_
  refine aO (rfl:_=[_,_,_,_,_,_,_,_,_,_,_]) ?_
  refine ax (_,[((38,0),_)]) (fun τ=> (bA aa [((0,8),(38,0))] ?_ (hcr.toI) trivial ⟨rfl,trivial⟩ ⟨rfl,trivial⟩ rfl rfl ac ac)) ?_
  · repeat' (first | exact aW | refine aQ ?_ ?_ | exact Lv.v | exact bd (by assumption) | exact bd ab | exact Lv.sl | exact Lv.fp | exact Lv.nil | exact aC rfl rfl | exact aZ rfl | refine Lv.agg rfl ?_ | refine Lv.fn rfl ?_ rfl ?_ | refine Lv.ifc ?_ | exact ap | refine aj ?_ ?_)
  refine aO (rfl:_=[_,_,_,_,_,_,_,_,_,_,_,_]) ?_
  first
    | refine ax (_,[]) (fun τ=> aE _ aa rfl rfl rfl rfl) ?_
    | refine ax (_,[]) (fun τ=> aD _ aa rfl rfl (by first | rfl | assumption) rfl) ?_
    | refine ax (_,[]) (fun τ=> aA _ aa rfl (by first | rfl | assumption) rfl) ?_
  refine aO (rfl:_=[_,_,_,_,_,_,_,_,_,_,_,_,_]) ?_
  refine ax (_,[]) (fun τ=> am _ aR) ?_
  refine aO (rfl:_=[_,_,_,_,_,_,_,_,_,_,_,_,_,_]) ?_
  refine ax (_,[((41,0),_)]) (fun τ=> (bA aa [((0,8),(41,0))] ?_ (hrz.toI) trivial ⟨rfl,trivial⟩ ⟨rfl,trivial⟩ rfl rfl ac ac)) ?_
  · repeat' (first | exact aW | refine aQ ?_ ?_ | exact Lv.v | exact bd (by assumption) | exact bd ab | exact Lv.sl | exact Lv.fp | exact Lv.nil | exact aC rfl rfl | exact aZ rfl | refine Lv.agg rfl ?_ | refine Lv.fn rfl ?_ rfl ?_ | refine Lv.ifc ?_ | exact ap | refine aj ?_ ?_)
  refine aO (rfl:_=[_,_,_,_,_,_,_,_,_,_,_,_,_,_,_]) ?_
  first
    | refine ax (_,[]) (fun τ=> aE _ aa rfl rfl rfl rfl) ?_
    | refine ax (_,[]) (fun τ=> aD _ aa rfl rfl (by first | rfl | assumption) rfl) ?_
    | refine ax (_,[]) (fun τ=> aA _ aa rfl (by first | rfl | assumption) rfl) ?_
  refine aO (rfl:_=[_,_,_,_,_,_,_,_,_,_,_,_,_,_,_,_]) ?_
  refine ax (_,[]) (fun τ=> am _ aR) ?_
  refine aO (rfl:_=[_,_,_,_,_,_,_,_,_,_,_,_,_,_,_,_,_]) ?_
  refine ax (_,[((44,0),_),((44,1),_)]) (fun τ=> (bA aa [((0,8),(44,0)),((1,8),(44,1))] ?_ (hw2.toI) trivial ⟨rfl,rfl,trivial⟩ ⟨rfl,rfl,trivial⟩ rfl rfl ac ac)) ?_
  · repeat' (first | exact aW | refine aQ ?_ ?_ | exact Lv.v | exact bd (by assumption) | exact bd ab | exact Lv.sl | exact Lv.fp | exact Lv.nil | exact aC rfl rfl | exact aZ rfl | refine Lv.agg rfl ?_ | refine Lv.fn rfl ?_ rfl ?_ | refine Lv.ifc ?_ | exact ap | refine aj ?_ ?_)
  refine aO (rfl:_=[_,_,_,_,_,_,_,_,_,_,_,_,_,_,_,_,_,_]) ?_
  refine ax (_,[((45,0),_)]) (fun τ=> kW (45,0) _ _ aa rfl ae (by simp;exact ⟨rfl,rfl,rfl,rfl,rfl⟩) ag ag rfl rfl) ?_
  refine aO (rfl:_=[_,_,_,_,_,_,_,_,_,_,_,_,_,_,_,_,_,_,_]) ?_
  refine cJ ⟨rfl,?_⟩
  refine ah (az _ bV) ?_
  refine ak (hK5 _ ?_)
  clear hK5;try clear K5
  refine al fun K6 hK6=> ?_
  refine al fun K7 hK7=> ?_
  refine bz (σ':=bi 103 [(9,_),(10,_),(12,_)] [((9,0),_),((10,0),_),((33,0),_),((33,1),_),((35,0),_),((38,0),_),((41,0),_),((44,0),_),((44,1),_),((45,0),_)] [] []) (by
    refine Le.mkJ [] [] rfl ?_ ?_ trivial trivial ?_
    · exact ⟨(iP rfl),(iP rfl),(iR rfl),trivial⟩
    · exact ⟨(ay rfl rfl rfl),(ay rfl rfl rfl),(ay rfl rfl rfl),(ay rfl rfl rfl),(ay rfl rfl rfl),(ay rfl rfl rfl),(ay rfl rfl rfl),(ay rfl rfl rfl),(ay rfl rfl rfl),(ay rfl rfl rfl),trivial⟩
    kernel_rfl) ?_
  refine ai ?_
  refine ah (az _ aR) ?_
  refine ak (hK7 _ ?_)
  clear hK7;try clear K7
  refine aN ?_
  refine bn (α:=Nat×List PV×List PV×List PV×List PV×List PV×List PV×List PV) (fun z=> z.1≤5∧Lq z.2.1 d.cells.length∧Lq z.2.2.1 x1.length∧Lq z.2.2.2.1 d.cells.length∧Lq z.2.2.2.2.1 d.cells.length∧Lq z.2.2.2.2.2.1 d.cells.length∧Lq z.2.2.2.2.2.2.1 d.cells.length∧Lq z.2.2.2.2.2.2.2 x6.length) 103 [(9,_),(10,_),(12,_)] [] (fun z=> [(13, .v (.int .i64 (z.1:Int)))]) (fun z=> [((9,0), .box 25 [.sl d.cells.length (bG d.cells), .sl d.pend.length (cN d.pend)]),((10,0), .box 25 [.sl d.cells.length (bG d.cells), .sl d.pend.length (cN d.pend)]),((45,0), .box 25 [.ref (33,0) 0 d.cells.length, .ref (33,1) o1 m1, .ref (35,0) 0 d.cells.length, .v (.slice none 0 0), .ref (38,0) 0 d.cells.length, .v (.slice none 0 0), .ref (41,0) 0 d.cells.length, .v (.slice none 0 0), .ref (44,0) 0 d.cells.length, .ref (44,1) o6 m6]),((33,0), .row 3 1 z.2.1),((33,1), .row 35 2 z.2.2.1),((35,0), .row 3 1 z.2.2.2.1),((38,0), .row 3 1 z.2.2.2.2.1),((41,0), .row 3 1 z.2.2.2.2.2.1),((44,0), .row 3 1 z.2.2.2.2.2.2.1),((44,1), .row 35 2 z.2.2.2.2.2.2.2)]) [] [] (fun z=> 5 - z.1) (0,l0,x1,l2,l3,l4,l5,x6) ?_ (by
    refine Le.mkJ [] [] rfl ?_ ?_ trivial trivial ?_
    · exact ⟨(iP rfl),(iP rfl),(iR rfl),(bd (by first | rfl | omega | (simp;done) | (simp;omega) | assumption)),trivial⟩
    · exact ⟨(eA rfl rfl rfl rfl (aj (cb (by first | rfl | omega | (simp;done) | (simp;omega) | assumption) (by first | rfl | omega | (simp;done) | (simp;omega) | assumption)) (aj (cb (by first | rfl | omega | (simp;done) | (simp;omega) | assumption) (by first | rfl | omega | (simp;done) | (simp;omega) | assumption)) ap))),(eA rfl rfl rfl rfl (aj (cb (by first | rfl | omega | (simp;done) | (simp;omega) | assumption) (by first | rfl | omega | (simp;done) | (simp;omega) | assumption)) (aj (cb (by first | rfl | omega | (simp;done) | (simp;omega) | assumption) (by first | rfl | omega | (simp;done) | (simp;omega) | assumption)) ap))),(eA rfl rfl rfl rfl (aj (aC rfl (by first | rfl | omega | (simp;done) | (simp;omega) | assumption)) (aj (aC rfl (by first | rfl | omega | (simp;done) | (simp;omega) | assumption)) (aj (aC rfl (by first | rfl | omega | (simp;done) | (simp;omega) | assumption)) (aj (by repeat' (first | exact Lv.v | exact Lv.sl | exact Lv.fp | exact aC rfl rfl | exact aZ rfl | exact Lv.mp | exact Lv.nil | exact Lv.z | exact Lv.dead | refine Lv.agg rfl ?_ | refine Lv.fn rfl ?_ rfl ?_ | refine Lv.tup rfl ?_ | refine Lv.ifc ?_ | exact ap | refine aj ?_ ?_)) (aj (aC rfl (by first | rfl | omega | (simp;done) | (simp;omega) | assumption)) (aj (by repeat' (first | exact Lv.v | exact Lv.sl | exact Lv.fp | exact aC rfl rfl | exact aZ rfl | exact Lv.mp | exact Lv.nil | exact Lv.z | exact Lv.dead | refine Lv.agg rfl ?_ | refine Lv.fn rfl ?_ rfl ?_ | refine Lv.tup rfl ?_ | refine Lv.ifc ?_ | exact ap | refine aj ?_ ?_)) (aj (aC rfl (by first | rfl | omega | (simp;done) | (simp;omega) | assumption)) (aj (by repeat' (first | exact Lv.v | exact Lv.sl | exact Lv.fp | exact aC rfl rfl | exact aZ rfl | exact Lv.mp | exact Lv.nil | exact Lv.z | exact Lv.dead | refine Lv.agg rfl ?_ | refine Lv.fn rfl ?_ rfl ?_ | refine Lv.tup rfl ?_ | refine Lv.ifc ?_ | exact ap | refine aj ?_ ?_)) (aj (aC rfl (by first | rfl | omega | (simp;done) | (simp;omega) | assumption)) (aj (aC rfl (by first | rfl | omega | (simp;done) | (simp;omega) | assumption)) ap))))))))))),(bJ rfl rfl rfl (by first | rfl | omega | (simp;done) | (simp;omega) | assumption)),(bJ rfl rfl rfl (by first | rfl | omega | (simp;done) | (simp;omega) | assumption)),(bJ rfl rfl rfl (by first | rfl | omega | (simp;done) | (simp;omega) | assumption)),(bJ rfl rfl rfl (by first | rfl | omega | (simp;done) | (simp;omega) | assumption)),(bJ rfl rfl rfl (by first | rfl | omega | (simp;done) | (simp;omega) | assumption)),(bJ rfl rfl rfl (by first | rfl | omega | (simp;done) | (simp;omega) | assumption)),(bJ rfl rfl rfl (by first | rfl | omega | (simp;done) | (simp;omega) | assumption)),trivial⟩
    kernel_rfl) ?_
  · exact ⟨Nat.zero_le _,E0,rfl,e2,e3,e4,E5,rfl⟩
  intro z hz
  obtain ⟨k,a,b,c,e,f,g,h⟩:=z
  obtain ⟨hk,ha,hb,hc,he,hf,hg,hh⟩:=hz
  simp only at hk ha hb hc he hf hg hh ⊢
  refine al fun K8 hK8=> ?_
  refine al fun K9 hK9=> ?_
  refine ai ?_
  refine ah (am _ aR) ?_
  refine ah (am _ bV) ?_
  first
    | refine ah (bt _ aa rfl rfl) ?_
    | refine ah (bs _ aa rfl rfl) ?_
  first
    | refine ah (aL _ _ rfl rfl (by assumption)) ?_
    | refine ah (aL _ _ rfl rfl rfl) ?_
  refine ak (hK9 _ ?_)
  clear hK9;try clear K9
  refine aY rfl (fun hc49=> ?_) (fun hc49=> ?_)
  · skip
    have hk5:k < 5:=by omega
    refine aT (hK8 _ ?_)
    clear hK8;try clear K8
    refine al fun K10 hK10=> ?_
    refine aN ?_
    refine al fun K11 hK11=> ?_
    refine al fun K12 hK12=> ?_
    rcases mO hk5 with rfl | rfl | rfl | rfl | rfl
    · skip
      refine ai ?_
      refine ah (az _ aR) ?_
      refine ak (hK12 _ ?_)
      clear hK12;try clear K12
      refine aN ?_
      refine bn (α:=Nat×List PV) (fun y=> y.1≤d.cells.length∧Lq y.2 d.cells.length) 103 [(9,_),(10,_),(12,_),(13,_)] [((9,0),_),((10,0),_),((45,0),_),((33,1),_),((35,0),_),((38,0),_),((41,0),_),((44,0),_),((44,1),_)] (fun y=> [(14, .v (.int .i64 (y.1:Int)))]) (fun y=> [((33,0), .row 3 1 y.2)]) [] [] (fun y=> d.cells.length - y.1) (0,a) ?_ (by
        refine Le.mkJ [] [] rfl ?_ ?_ trivial trivial ?_
        · exact ⟨(iP rfl),(iP rfl),(iR rfl),(iV rfl),(bd (by first | rfl | omega | (simp;done) | (simp;omega) | assumption)),trivial⟩
        · exact ⟨(ay rfl rfl rfl),(ay rfl rfl rfl),(ay rfl rfl rfl),(ay rfl rfl rfl),(ay rfl rfl rfl),(ay rfl rfl rfl),(ay rfl rfl rfl),(ay rfl rfl rfl),(ay rfl rfl rfl),(bJ rfl rfl rfl (by first | rfl | omega | (simp;done) | (simp;omega) | assumption)),trivial⟩
        kernel_rfl) ?_
      · exact ⟨Nat.zero_le _,ha⟩
      intro y hy
      obtain ⟨j1,q1⟩:=y
      obtain ⟨hj1,hq1⟩:=hy
      simp only at hj1 hq1 ⊢
      refine al fun K13 hK13=> ?_
      refine al fun K14 hK14=> ?_
      refine ai ?_
      refine ah (am _ aR) ?_
      refine ah (am _ bV) ?_
      refine ah (am _ aR) ?_
      refine ah (bN _ _ aa rfl rfl rfl 0 rfl ab rfl) ?_
      first
        | refine ah (au _ aa rfl rfl rfl) ?_
        | refine ah (aw _ aa rfl rfl) ?_
      first
        | refine ah (aB _ aa rfl rfl dB) ?_
        | refine ah (aH _ aa rfl rfl (by first | rfl | exact an _ _ ab | exact ar _ _ ab | assumption | exact an _ _ ab) rfl) ?_
      first
        | refine ah (bt _ aa rfl rfl) ?_
        | refine ah (bs _ aa rfl rfl) ?_
      first
        | refine ah (aL _ _ rfl rfl (by assumption)) ?_
        | refine ah (aL _ _ rfl rfl rfl) ?_
      refine ak (hK14 _ ?_)
      clear hK14;try clear K14
      refine aY rfl (fun hc59=> ?_) (fun hc59=> ?_)
      · skip
        refine aT (hK13 _ ?_)
        clear hK13;try clear K13
        refine al fun K15 hK15=> ?_
        refine aN ?_
        refine ai ?_
        refine ah (am _ bV) ?_
        refine ah (am _ aR) ?_
        refine ah (bN _ _ aa rfl rfl rfl 0 rfl ab rfl) ?_
        first
          | refine ah (au _ aa rfl rfl rfl) ?_
          | refine ah (aw _ aa rfl rfl) ?_
        first
          | refine ah (aB _ aa rfl rfl dB) ?_
          | refine ah (aH _ aa rfl rfl (by first | rfl | exact an _ _ ab | exact ar _ _ ab | assumption | exact an _ _ ab) rfl) ?_
        refine ah (am _ aR) ?_
        first
          | refine ah (br _ _ aa rfl rfl rfl _ rfl ab (by first | exact (Nat.zero_add _).trans (Nat.mul_one _) | exact Nat.zero_add _ | rfl | omega)) ?_
          | refine ah (br _ _ aa rfl rfl rfl (Int.toNat _) (Int.toNat_of_nonneg ab).symm ab (by first | exact (Nat.zero_add _).trans (Nat.mul_one _) | exact Nat.zero_add _ | rfl | omega)) ?_
        refine ah (cz _ _ aa rfl rfl rfl rfl rfl (by exact hq1.fit (k:=j1) ab) rfl) ?_
        refine ak (hK15 _ ?_)
        clear hK15;try clear K15
        refine bz (σ':=bi 103 [(9,_),(10,_),(12,_),(13,_),(14,_)] [((9,0),_),((10,0),_),((45,0),_),((33,1),_),((35,0),_),((38,0),_),((41,0),_),((44,0),_),((44,1),_),((33,0),_)] [] []) (by
          refine Le.mkJ [] [] rfl ?_ ?_ trivial trivial ?_
          · exact ⟨(iP rfl),(iP rfl),(iR rfl),(iV rfl),(iV rfl),trivial⟩
          · exact ⟨(ay rfl rfl rfl),(ay rfl rfl rfl),(ay rfl rfl rfl),(ay rfl rfl rfl),(ay rfl rfl rfl),(ay rfl rfl rfl),(ay rfl rfl rfl),(ay rfl rfl rfl),(ay rfl rfl rfl),(ay rfl rfl rfl),trivial⟩
          kernel_rfl) ?_
        refine ai ?_
        refine ah (am _ aR) ?_
        first
          | refine ah (aK _ _ rfl rfl (bQ ab)) ?_
          | refine ah (aK _ _ rfl rfl rfl) ?_
        refine ah (az _ aR) ?_
        refine ak ?_
        refine ⟨(j1+1,bZ q1 j1 [PV.v (.int .i64 99)]),?_,?_,?_⟩
        · exact ⟨by simp only;omega,hq1.put (by simp only [List.length_cons,List.length_nil];omega)⟩
        · skip
          refine Le.mkJ [] [] rfl ?_ ?_ trivial trivial ?_
          · exact ⟨(iP rfl),(iP rfl),(iR rfl),(iV rfl),(bd (by first | rfl | omega | (simp;done) | (simp;omega) | assumption)),trivial⟩
          · exact ⟨(ay rfl rfl rfl),(ay rfl rfl rfl),(ay rfl rfl rfl),(ay rfl rfl rfl),(ay rfl rfl rfl),(ay rfl rfl rfl),(ay rfl rfl rfl),(ay rfl rfl rfl),(ay rfl rfl rfl),(bJ rfl rfl rfl (by first | rfl | omega | (simp;done) | (simp;omega) | assumption)),trivial⟩
          kernel_rfl
        omega
      refine bv ?_
      refine id (hK11 _ ?_)
      clear hK11;try clear K11
      refine al fun K16 hK16=> ?_
      refine al fun K17 hK17=> ?_
      refine ai ?_
      refine ah (az _ aR) ?_
      refine ak (hK17 _ ?_)
      clear hK17;try clear K17
      refine aN ?_
      refine bn (α:=Nat×List PV) (fun y=> y.1≤m1∧Lq y.2 x1.length) 103 [(9,_),(10,_),(12,_),(13,_)] [((9,0),_),((10,0),_),((45,0),_),((35,0),_),((38,0),_),((41,0),_),((44,0),_),((44,1),_),((33,0),_)] (fun y=> [(15, .v (.int .i64 (y.1:Int)))]) (fun y=> [((33,1), .row 35 2 y.2)]) [] [] (fun y=> m1 - y.1) (0,b) ?_ (by
        refine Le.mkJ [] [] rfl ?_ ?_ trivial trivial ?_
        · exact ⟨(iP rfl),(iP rfl),(iR rfl),(iV rfl),(bd (by first | rfl | omega | (simp;done) | (simp;omega) | assumption)),trivial⟩
        · exact ⟨(ay rfl rfl rfl),(ay rfl rfl rfl),(ay rfl rfl rfl),(ay rfl rfl rfl),(ay rfl rfl rfl),(ay rfl rfl rfl),(ay rfl rfl rfl),(ay rfl rfl rfl),(ay rfl rfl rfl),(bJ rfl rfl rfl (by first | rfl | omega | (simp;done) | (simp;omega) | assumption)),trivial⟩
        kernel_rfl) ?_
      · exact ⟨Nat.zero_le _,hb⟩
      intro y hy
      obtain ⟨j2,q2⟩:=y
      obtain ⟨hj2,hq2⟩:=hy
      simp only at hj2 hq2 ⊢
      refine al fun K18 hK18=> ?_
      refine al fun K19 hK19=> ?_
      refine ai ?_
      refine ah (am _ aR) ?_
      refine ah (am _ bV) ?_
      refine ah (am _ aR) ?_
      refine ah (bN _ _ aa rfl rfl rfl 0 rfl ab rfl) ?_
      first
        | refine ah (au _ aa rfl rfl rfl) ?_
        | refine ah (aw _ aa rfl rfl) ?_
      first
        | refine ah (aB _ aa rfl rfl dB) ?_
        | refine ah (aH _ aa rfl rfl (by first | rfl | exact an _ _ ab | exact ar _ _ ab | assumption | exact an _ _ ab) rfl) ?_
      first
        | refine ah (bt _ aa rfl rfl) ?_
        | refine ah (bs _ aa rfl rfl) ?_
      first
        | refine ah (aL _ _ rfl rfl (by assumption)) ?_
        | refine ah (aL _ _ rfl rfl rfl) ?_
      refine ak (hK19 _ ?_)
      clear hK19;try clear K19
      refine aY rfl (fun hc76=> ?_) (fun hc76=> ?_)
      · skip
        refine aT (hK18 _ ?_)
        clear hK18;try clear K18
        refine al fun K20 hK20=> ?_
        refine aN ?_
        refine ai ?_
        refine ah (am _ bV) ?_
        refine ah (am _ aR) ?_
        refine ah (bN _ _ aa rfl rfl rfl 0 rfl ab rfl) ?_
        first
          | refine ah (au _ aa rfl rfl rfl) ?_
          | refine ah (aw _ aa rfl rfl) ?_
        first
          | refine ah (aB _ aa rfl rfl dB) ?_
          | refine ah (aH _ aa rfl rfl (by first | rfl | exact an _ _ ab | exact ar _ _ ab | assumption | exact an _ _ ab) rfl) ?_
        refine ah (am _ aR) ?_
        refine ah (bE _ aa rfl (by exact hY)) ?_
        first
          | refine ah (br _ _ aa rfl rfl rfl _ rfl ab (by first | exact (Nat.zero_add _).trans (Nat.mul_one _) | exact Nat.zero_add _ | rfl | omega)) ?_
          | refine ah (br _ _ aa rfl rfl rfl (Int.toNat _) (Int.toNat_of_nonneg ab).symm ab (by first | exact (Nat.zero_add _).trans (Nat.mul_one _) | exact Nat.zero_add _ | rfl | omega)) ?_
        refine ah (cz _ _ aa rfl rfl rfl rfl rfl (by exact E1.fit hq2 ab) rfl) ?_
        refine ak (hK20 _ ?_)
        clear hK20;try clear K20
        refine bz (σ':=bi 103 [(9,_),(10,_),(12,_),(13,_),(15,_)] [((9,0),_),((10,0),_),((45,0),_),((35,0),_),((38,0),_),((41,0),_),((44,0),_),((44,1),_),((33,0),_),((33,1),_)] [] []) (by
          refine Le.mkJ [] [] rfl ?_ ?_ trivial trivial ?_
          · exact ⟨(iP rfl),(iP rfl),(iR rfl),(iV rfl),(iV rfl),trivial⟩
          · exact ⟨(ay rfl rfl rfl),(ay rfl rfl rfl),(ay rfl rfl rfl),(ay rfl rfl rfl),(ay rfl rfl rfl),(ay rfl rfl rfl),(ay rfl rfl rfl),(ay rfl rfl rfl),(ay rfl rfl rfl),(ay rfl rfl rfl),trivial⟩
          kernel_rfl) ?_
        refine ai ?_
        refine ah (am _ aR) ?_
        first
          | refine ah (aK _ _ rfl rfl (bQ ab)) ?_
          | refine ah (aK _ _ rfl rfl rfl) ?_
        refine ah (az _ aR) ?_
        refine ak ?_
        refine ⟨(j2+1,bZ q2 (o1+j2*2) [PV.v (.int .i64 0),PV.v (.int .i64 98)]),?_,?_,?_⟩
        · exact ⟨by simp only;omega,hq2.put (E1.fit' ab)⟩
        · skip
          refine Le.mkJ [] [] rfl ?_ ?_ trivial trivial ?_
          · exact ⟨(iP rfl),(iP rfl),(iR rfl),(iV rfl),(bd (by first | rfl | omega | (simp;done) | (simp;omega) | assumption)),trivial⟩
          · exact ⟨(ay rfl rfl rfl),(ay rfl rfl rfl),(ay rfl rfl rfl),(ay rfl rfl rfl),(ay rfl rfl rfl),(ay rfl rfl rfl),(ay rfl rfl rfl),(ay rfl rfl rfl),(ay rfl rfl rfl),(bJ rfl rfl rfl (by first | rfl | omega | (simp;done) | (simp;omega) | assumption)),trivial⟩
          kernel_rfl
        omega
      refine bv ?_
      refine id (hK16 _ ?_)
      clear hK16;try clear K16
      refine al fun K21 hK21=> ?_
      refine ai ?_
      first
        | refine ah (aE _ aa rfl rfl rfl rfl) ?_
        | refine ah (aD _ aa rfl rfl (by first | rfl | assumption) rfl) ?_
        | refine ah (aA _ aa rfl (by first | rfl | assumption) rfl) ?_
      refine ah (bA aa [((0,8),(88,0))] ?_ (hvw.toI) trivial ⟨rfl,trivial⟩ ⟨rfl,trivial⟩ rfl rfl ac ac) ?_
      · repeat' (first | exact aW | refine aQ ?_ ?_ | exact Lv.v | exact bd (by assumption) | exact bd ab | exact Lv.sl | exact Lv.fp | exact Lv.nil | exact aC rfl rfl | exact aZ rfl | refine Lv.agg rfl ?_ | refine Lv.fn rfl ?_ rfl ?_ | refine Lv.ifc ?_ | exact ap | refine aj ?_ ?_)
      refine ah (az _ bV) ?_
      refine ak (hK21 _ ?_)
      clear hK21;try clear K21
      refine al fun K22 hK22=> ?_
      refine al fun K23 hK23=> ?_
      refine ai ?_
      refine ah (az _ aR) ?_
      refine ak (hK23 _ ?_)
      clear hK23;try clear K23
      refine aN ?_
      refine bn (α:=Nat×List PV) (fun y=> y.1≤d.cells.length∧Lq y.2 d.cells.length) 103 [(9,_),(10,_),(12,_),(13,_),(16,_)] [((9,0),_),((10,0),_),((45,0),_),((35,0),_),((38,0),_),((41,0),_),((44,0),_),((44,1),_),((33,0),_),((33,1),_)] (fun y=> [(17, .v (.int .i64 (y.1:Int)))]) (fun y=> [((88,0), .row 3 1 y.2)]) [] [] (fun y=> d.cells.length - y.1) (0,l2) ?_ (by
        refine Le.mkJ [] [] rfl ?_ ?_ trivial trivial ?_
        · exact ⟨(iP rfl),(iP rfl),(iR rfl),(iV rfl),(iR rfl),(bd (by first | rfl | omega | (simp;done) | (simp;omega) | assumption)),trivial⟩
        · exact ⟨(ay rfl rfl rfl),(ay rfl rfl rfl),(ay rfl rfl rfl),(ay rfl rfl rfl),(ay rfl rfl rfl),(ay rfl rfl rfl),(ay rfl rfl rfl),(ay rfl rfl rfl),(ay rfl rfl rfl),(ay rfl rfl rfl),(bJ rfl rfl rfl (by first | rfl | omega | (simp;done) | (simp;omega) | assumption)),trivial⟩
        kernel_rfl) ?_
      · exact ⟨Nat.zero_le _,e2⟩
      intro y hy
      obtain ⟨j3,q3⟩:=y
      obtain ⟨hj3,hq3⟩:=hy
      simp only at hj3 hq3 ⊢
      refine al fun K24 hK24=> ?_
      refine al fun K25 hK25=> ?_
      refine ai ?_
      refine ah (am _ aR) ?_
      refine ah (am _ bV) ?_
      first
        | refine ah (bt _ aa rfl rfl) ?_
        | refine ah (bs _ aa rfl rfl) ?_
      first
        | refine ah (aL _ _ rfl rfl (by assumption)) ?_
        | refine ah (aL _ _ rfl rfl rfl) ?_
      refine ak (hK25 _ ?_)
      clear hK25;try clear K25
      refine aY rfl (fun hc92=> ?_) (fun hc92=> ?_)
      · skip
        refine aT (hK24 _ ?_)
        clear hK24;try clear K24
        refine al fun K26 hK26=> ?_
        refine aN ?_
        refine ai ?_
        refine ah (am _ bV) ?_
        refine ah (am _ aR) ?_
        first
          | refine ah (br _ _ aa rfl rfl rfl _ rfl ab (by first | exact (Nat.zero_add _).trans (Nat.mul_one _) | exact Nat.zero_add _ | rfl | omega)) ?_
          | refine ah (br _ _ aa rfl rfl rfl (Int.toNat _) (Int.toNat_of_nonneg ab).symm ab (by first | exact (Nat.zero_add _).trans (Nat.mul_one _) | exact Nat.zero_add _ | rfl | omega)) ?_
        refine ah (cz _ _ aa rfl rfl rfl rfl rfl (by exact hq3.fit (k:=j3) ab) rfl) ?_
        refine ak (hK26 _ ?_)
        clear hK26;try clear K26
        refine ai ?_
        refine ah (am _ aR) ?_
        first
          | refine ah (aK _ _ rfl rfl (bQ ab)) ?_
          | refine ah (aK _ _ rfl rfl rfl) ?_
        refine ah (az _ aR) ?_
        refine ak ?_
        refine ⟨(j3+1,bZ q3 j3 [PV.v (.int .i64 97)]),?_,?_,?_⟩
        · exact ⟨by simp only;omega,hq3.put (by simp only [List.length_cons,List.length_nil];omega)⟩
        · skip
          refine Le.mkJ [] [] rfl ?_ ?_ trivial trivial ?_
          · exact ⟨(iP rfl),(iP rfl),(iR rfl),(iV rfl),(iR rfl),(bd (by first | rfl | omega | (simp;done) | (simp;omega) | assumption)),trivial⟩
          · exact ⟨(ay rfl rfl rfl),(ay rfl rfl rfl),(ay rfl rfl rfl),(ay rfl rfl rfl),(ay rfl rfl rfl),(ay rfl rfl rfl),(ay rfl rfl rfl),(ay rfl rfl rfl),(ay rfl rfl rfl),(ay rfl rfl rfl),(bJ rfl rfl rfl (by first | rfl | omega | (simp;done) | (simp;omega) | assumption)),trivial⟩
          kernel_rfl
        omega
      refine bv ?_
      refine id (hK22 _ ?_)
      clear hK22;try clear K22
      refine al fun K27 hK27=> ?_
      refine ai ?_
      first
        | refine ah (aE _ aa rfl rfl rfl rfl) ?_
        | refine ah (aD _ aa rfl rfl (by first | rfl | assumption) rfl) ?_
        | refine ah (aA _ aa rfl (by first | rfl | assumption) rfl) ?_
      first
        | refine ah (aE _ aa rfl rfl rfl rfl) ?_
        | refine ah (aD _ aa rfl rfl (by first | rfl | assumption) rfl) ?_
        | refine ah (aA _ aa rfl (by first | rfl | assumption) rfl) ?_
      refine ah (aX aa (by repeat' (first | exact aJ | refine aG ?_ ?_ | exact Lv.v | exact bd ab | exact Lv.sl | exact Lv.fp | exact Lv.nil | refine Lv.agg rfl ?_ | refine Lv.fn rfl ?_ rfl ?_ | exact ap | refine aj ?_ ?_ | exact Lv.z0)) (hsm) rfl rfl) ?_
      refine ah (eF _ rfl rfl) ?_
      refine ak (hK27 _ ?_)
      clear hK27;try clear K27
      refine cq rfl rfl ?_
      refine aT (hK10 _ ?_)
      clear hK10;try clear K10
      refine ai ?_
      refine ah (am _ aR) ?_
      first
        | refine ah (aK _ _ rfl rfl (bQ ab)) ?_
        | refine ah (aK _ _ rfl rfl rfl) ?_
      refine ah (az _ aR) ?_
      refine ak ?_
      refine ⟨(0+1,q1,q2,c,e,f,g,h),?_,?_,?_⟩
      · refine ⟨by simp only;omega,?_,?_,?_,?_,?_,?_,?_⟩ <;> assumption
      · skip
        refine Le.mkJ [] [] rfl ?_ ?_ trivial trivial ?_
        · exact ⟨(iP rfl),(iP rfl),(iR rfl),(bd (by first | rfl | omega | (simp;done) | (simp;omega) | assumption)),trivial⟩
        · exact ⟨(eA rfl rfl rfl rfl (aj (cb (by first | rfl | omega | (simp;done) | (simp;omega) | assumption) (by first | rfl | omega | (simp;done) | (simp;omega) | assumption)) (aj (cb (by first | rfl | omega | (simp;done) | (simp;omega) | assumption) (by first | rfl | omega | (simp;done) | (simp;omega) | assumption)) ap))),(eA rfl rfl rfl rfl (aj (cb (by first | rfl | omega | (simp;done) | (simp;omega) | assumption) (by first | rfl | omega | (simp;done) | (simp;omega) | assumption)) (aj (cb (by first | rfl | omega | (simp;done) | (simp;omega) | assumption) (by first | rfl | omega | (simp;done) | (simp;omega) | assumption)) ap))),(eA rfl rfl rfl rfl (aj (aC rfl (by first | rfl | omega | (simp;done) | (simp;omega) | assumption)) (aj (aC rfl (by first | rfl | omega | (simp;done) | (simp;omega) | assumption)) (aj (aC rfl (by first | rfl | omega | (simp;done) | (simp;omega) | assumption)) (aj (by repeat' (first | exact Lv.v | exact Lv.sl | exact Lv.fp | exact aC rfl rfl | exact aZ rfl | exact Lv.mp | exact Lv.nil | exact Lv.z | exact Lv.dead | refine Lv.agg rfl ?_ | refine Lv.fn rfl ?_ rfl ?_ | refine Lv.tup rfl ?_ | refine Lv.ifc ?_ | exact ap | refine aj ?_ ?_)) (aj (aC rfl (by first | rfl | omega | (simp;done) | (simp;omega) | assumption)) (aj (by repeat' (first | exact Lv.v | exact Lv.sl | exact Lv.fp | exact aC rfl rfl | exact aZ rfl | exact Lv.mp | exact Lv.nil | exact Lv.z | exact Lv.dead | refine Lv.agg rfl ?_ | refine Lv.fn rfl ?_ rfl ?_ | refine Lv.tup rfl ?_ | refine Lv.ifc ?_ | exact ap | refine aj ?_ ?_)) (aj (aC rfl (by first | rfl | omega | (simp;done) | (simp;omega) | assumption)) (aj (by repeat' (first | exact Lv.v | exact Lv.sl | exact Lv.fp | exact aC rfl rfl | exact aZ rfl | exact Lv.mp | exact Lv.nil | exact Lv.z | exact Lv.dead | refine Lv.agg rfl ?_ | refine Lv.fn rfl ?_ rfl ?_ | refine Lv.tup rfl ?_ | refine Lv.ifc ?_ | exact ap | refine aj ?_ ?_)) (aj (aC rfl (by first | rfl | omega | (simp;done) | (simp;omega) | assumption)) (aj (aC rfl (by first | rfl | omega | (simp;done) | (simp;omega) | assumption)) ap))))))))))),(bJ rfl rfl rfl (by first | rfl | omega | (simp;done) | (simp;omega) | assumption)),(bJ rfl rfl rfl (by first | rfl | omega | (simp;done) | (simp;omega) | assumption)),(bJ rfl rfl rfl (by first | rfl | omega | (simp;done) | (simp;omega) | assumption)),(bJ rfl rfl rfl (by first | rfl | omega | (simp;done) | (simp;omega) | assumption)),(bJ rfl rfl rfl (by first | rfl | omega | (simp;done) | (simp;omega) | assumption)),(bJ rfl rfl rfl (by first | rfl | omega | (simp;done) | (simp;omega) | assumption)),(bJ rfl rfl rfl (by first | rfl | omega | (simp;done) | (simp;omega) | assumption)),trivial⟩
        kernel_rfl
      omega
    · skip
      refine ai ?_
      refine ah (az _ aR) ?_
      refine ak (hK12 _ ?_)
      clear hK12;try clear K12
      refine aN ?_
      refine bn (α:=Nat×List PV) (fun y=> y.1≤d.cells.length∧Lq y.2 d.cells.length) 103 [(9,_),(10,_),(12,_),(13,_)] [((9,0),_),((10,0),_),((45,0),_),((33,0),_),((33,1),_),((38,0),_),((41,0),_),((44,0),_),((44,1),_)] (fun y=> [(14, .v (.int .i64 (y.1:Int)))]) (fun y=> [((35,0), .row 3 1 y.2)]) [] [] (fun y=> d.cells.length - y.1) (0,c) ?_ (by
        refine Le.mkJ [] [] rfl ?_ ?_ trivial trivial ?_
        · exact ⟨(iP rfl),(iP rfl),(iR rfl),(iV rfl),(bd (by first | rfl | omega | (simp;done) | (simp;omega) | assumption)),trivial⟩
        · exact ⟨(ay rfl rfl rfl),(ay rfl rfl rfl),(ay rfl rfl rfl),(ay rfl rfl rfl),(ay rfl rfl rfl),(ay rfl rfl rfl),(ay rfl rfl rfl),(ay rfl rfl rfl),(ay rfl rfl rfl),(bJ rfl rfl rfl (by first | rfl | omega | (simp;done) | (simp;omega) | assumption)),trivial⟩
        kernel_rfl) ?_
      · exact ⟨Nat.zero_le _,hc⟩
      intro y hy
      obtain ⟨j1,q1⟩:=y
      obtain ⟨hj1,hq1⟩:=hy
      simp only at hj1 hq1 ⊢
      refine al fun K28 hK28=> ?_
      refine al fun K29 hK29=> ?_
      refine ai ?_
      refine ah (am _ aR) ?_
      refine ah (am _ bV) ?_
      refine ah (am _ aR) ?_
      refine ah (bN _ _ aa rfl rfl rfl 1 rfl ab rfl) ?_
      first
        | refine ah (au _ aa rfl rfl rfl) ?_
        | refine ah (aw _ aa rfl rfl) ?_
      first
        | refine ah (aB _ aa rfl rfl dB) ?_
        | refine ah (aH _ aa rfl rfl (by first | rfl | exact an _ _ ab | exact ar _ _ ab | assumption | exact an _ _ ab) rfl) ?_
      first
        | refine ah (bt _ aa rfl rfl) ?_
        | refine ah (bs _ aa rfl rfl) ?_
      first
        | refine ah (aL _ _ rfl rfl (by assumption)) ?_
        | refine ah (aL _ _ rfl rfl rfl) ?_
      refine ak (hK29 _ ?_)
      clear hK29;try clear K29
      refine aY rfl (fun hc59=> ?_) (fun hc59=> ?_)
      · skip
        refine aT (hK28 _ ?_)
        clear hK28;try clear K28
        refine al fun K30 hK30=> ?_
        refine aN ?_
        refine ai ?_
        refine ah (am _ bV) ?_
        refine ah (am _ aR) ?_
        refine ah (bN _ _ aa rfl rfl rfl 1 rfl ab rfl) ?_
        first
          | refine ah (au _ aa rfl rfl rfl) ?_
          | refine ah (aw _ aa rfl rfl) ?_
        first
          | refine ah (aB _ aa rfl rfl dB) ?_
          | refine ah (aH _ aa rfl rfl (by first | rfl | exact an _ _ ab | exact ar _ _ ab | assumption | exact an _ _ ab) rfl) ?_
        refine ah (am _ aR) ?_
        first
          | refine ah (br _ _ aa rfl rfl rfl _ rfl ab (by first | exact (Nat.zero_add _).trans (Nat.mul_one _) | exact Nat.zero_add _ | rfl | omega)) ?_
          | refine ah (br _ _ aa rfl rfl rfl (Int.toNat _) (Int.toNat_of_nonneg ab).symm ab (by first | exact (Nat.zero_add _).trans (Nat.mul_one _) | exact Nat.zero_add _ | rfl | omega)) ?_
        refine ah (cz _ _ aa rfl rfl rfl rfl rfl (by exact hq1.fit (k:=j1) ab) rfl) ?_
        refine ak (hK30 _ ?_)
        clear hK30;try clear K30
        refine bz (σ':=bi 103 [(9,_),(10,_),(12,_),(13,_),(14,_)] [((9,0),_),((10,0),_),((45,0),_),((33,0),_),((33,1),_),((38,0),_),((41,0),_),((44,0),_),((44,1),_),((35,0),_)] [] []) (by
          refine Le.mkJ [] [] rfl ?_ ?_ trivial trivial ?_
          · exact ⟨(iP rfl),(iP rfl),(iR rfl),(iV rfl),(iV rfl),trivial⟩
          · exact ⟨(ay rfl rfl rfl),(ay rfl rfl rfl),(ay rfl rfl rfl),(ay rfl rfl rfl),(ay rfl rfl rfl),(ay rfl rfl rfl),(ay rfl rfl rfl),(ay rfl rfl rfl),(ay rfl rfl rfl),(ay rfl rfl rfl),trivial⟩
          kernel_rfl) ?_
        refine ai ?_
        refine ah (am _ aR) ?_
        first
          | refine ah (aK _ _ rfl rfl (bQ ab)) ?_
          | refine ah (aK _ _ rfl rfl rfl) ?_
        refine ah (az _ aR) ?_
        refine ak ?_
        refine ⟨(j1+1,bZ q1 j1 [PV.v (.int .i64 99)]),?_,?_,?_⟩
        · exact ⟨by simp only;omega,hq1.put (by simp only [List.length_cons,List.length_nil];omega)⟩
        · skip
          refine Le.mkJ [] [] rfl ?_ ?_ trivial trivial ?_
          · exact ⟨(iP rfl),(iP rfl),(iR rfl),(iV rfl),(bd (by first | rfl | omega | (simp;done) | (simp;omega) | assumption)),trivial⟩
          · exact ⟨(ay rfl rfl rfl),(ay rfl rfl rfl),(ay rfl rfl rfl),(ay rfl rfl rfl),(ay rfl rfl rfl),(ay rfl rfl rfl),(ay rfl rfl rfl),(ay rfl rfl rfl),(ay rfl rfl rfl),(bJ rfl rfl rfl (by first | rfl | omega | (simp;done) | (simp;omega) | assumption)),trivial⟩
          kernel_rfl
        omega
      refine bv ?_
      refine id (hK11 _ ?_)
      clear hK11;try clear K11
      refine al fun K31 hK31=> ?_
      refine al fun K32 hK32=> ?_
      refine ai ?_
      refine ah (az _ aR) ?_
      refine ak (hK32 _ ?_)
      clear hK32;try clear K32
      refine aN ?_
      refine bn (α:=Nat) (fun y=> y=0) 103 [(9,_),(10,_),(12,_),(13,_)] [((9,0),_),((10,0),_),((45,0),_),((33,0),_),((33,1),_),((38,0),_),((41,0),_),((44,0),_),((44,1),_),((35,0),_)] (fun y=> [(15, .v (.int .i64 (y:Int)))]) (fun y=> []) [] [] (fun y=> 0) 0 ?_ (by
        refine Le.mkJ [] [] rfl ?_ ?_ trivial trivial ?_
        · exact ⟨(iP rfl),(iP rfl),(iR rfl),(iV rfl),(bd (by first | rfl | omega | (simp;done) | (simp;omega) | assumption)),trivial⟩
        · exact ⟨(ay rfl rfl rfl),(ay rfl rfl rfl),(ay rfl rfl rfl),(ay rfl rfl rfl),(ay rfl rfl rfl),(ay rfl rfl rfl),(ay rfl rfl rfl),(ay rfl rfl rfl),(ay rfl rfl rfl),(ay rfl rfl rfl),trivial⟩
        kernel_rfl) ?_
      · rfl
      intro y hy
      refine al fun K33 hK33=> ?_
      refine al fun K34 hK34=> ?_
      refine ai ?_
      refine ah (am _ aR) ?_
      refine ah (am _ bV) ?_
      refine ah (am _ aR) ?_
      refine ah (bN _ _ aa rfl rfl rfl 1 rfl ab rfl) ?_
      first
        | refine ah (au _ aa rfl rfl rfl) ?_
        | refine ah (aw _ aa rfl rfl) ?_
      first
        | refine ah (aB _ aa rfl rfl dt) ?_
        | refine ah (aB _ aa rfl rfl dB) ?_
        | refine ah (aB _ aa rfl rfl kw) ?_
        | refine ah (aB _ aa rfl rfl (rfl:_=some (AV.z))) ?_
        | refine ah (aH _ aa rfl rfl (by first | rfl | exact an _ _ ab | exact ar _ _ ab | assumption | exact an _ _ ab) rfl) ?_
      first
        | refine ah (bl _ aa rfl) ?_
        | refine ah (bt _ aa rfl rfl) ?_
        | refine ah (dS _ aa rfl) ?_
        | refine ah (bs _ aa rfl rfl) ?_
        | refine ah (op_lenZ _ aa rfl) ?_
      first
        | refine ah (aL _ _ rfl rfl (by assumption)) ?_
        | refine ah (aL _ _ rfl rfl rfl) ?_
      refine ak (hK34 _ ?_)
      clear hK34;try clear K34
      refine cq rfl (decide_eq_false ab) ?_
      refine bv ?_
      refine id (hK31 _ ?_)
      clear hK31;try clear K31
      refine al fun K35 hK35=> ?_
      refine ai ?_
      first
        | refine ah (aE _ aa rfl rfl rfl rfl) ?_
        | refine ah (aD _ aa rfl rfl (by first | rfl | assumption) rfl) ?_
        | refine ah (aA _ aa rfl (by first | rfl | assumption) rfl) ?_
      refine ah (bA aa [((0,8),(88,0))] ?_ (hvw.toI) trivial ⟨rfl,trivial⟩ ⟨rfl,trivial⟩ rfl rfl ac ac) ?_
      · repeat' (first | exact aW | refine aQ ?_ ?_ | exact Lv.v | exact bd (by assumption) | exact bd ab | exact Lv.sl | exact Lv.fp | exact Lv.nil | exact aC rfl rfl | exact aZ rfl | refine Lv.agg rfl ?_ | refine Lv.fn rfl ?_ rfl ?_ | refine Lv.ifc ?_ | exact ap | refine aj ?_ ?_)
      refine ah (az _ bV) ?_
      refine ak (hK35 _ ?_)
      clear hK35;try clear K35
      refine al fun K36 hK36=> ?_
      refine al fun K37 hK37=> ?_
      refine ai ?_
      refine ah (az _ aR) ?_
      refine ak (hK37 _ ?_)
      clear hK37;try clear K37
      refine aN ?_
      refine bn (α:=Nat×List PV) (fun y=> y.1≤d.cells.length∧Lq y.2 d.cells.length) 103 [(9,_),(10,_),(12,_),(13,_),(16,_)] [((9,0),_),((10,0),_),((45,0),_),((33,0),_),((33,1),_),((38,0),_),((41,0),_),((44,0),_),((44,1),_),((35,0),_)] (fun y=> [(17, .v (.int .i64 (y.1:Int)))]) (fun y=> [((88,0), .row 3 1 y.2)]) [] [] (fun y=> d.cells.length - y.1) (0,l2) ?_ (by
        refine Le.mkJ [] [] rfl ?_ ?_ trivial trivial ?_
        · exact ⟨(iP rfl),(iP rfl),(iR rfl),(iV rfl),(iR rfl),(bd (by first | rfl | omega | (simp;done) | (simp;omega) | assumption)),trivial⟩
        · exact ⟨(ay rfl rfl rfl),(ay rfl rfl rfl),(ay rfl rfl rfl),(ay rfl rfl rfl),(ay rfl rfl rfl),(ay rfl rfl rfl),(ay rfl rfl rfl),(ay rfl rfl rfl),(ay rfl rfl rfl),(ay rfl rfl rfl),(bJ rfl rfl rfl (by first | rfl | omega | (simp;done) | (simp;omega) | assumption)),trivial⟩
        kernel_rfl) ?_
      · exact ⟨Nat.zero_le _,e2⟩
      intro y hy
      obtain ⟨j3,q3⟩:=y
      obtain ⟨hj3,hq3⟩:=hy
      simp only at hj3 hq3 ⊢
      refine al fun K38 hK38=> ?_
      refine al fun K39 hK39=> ?_
      refine ai ?_
      refine ah (am _ aR) ?_
      refine ah (am _ bV) ?_
      first
        | refine ah (bt _ aa rfl rfl) ?_
        | refine ah (bs _ aa rfl rfl) ?_
      first
        | refine ah (aL _ _ rfl rfl (by assumption)) ?_
        | refine ah (aL _ _ rfl rfl rfl) ?_
      refine ak (hK39 _ ?_)
      clear hK39;try clear K39
      refine aY rfl (fun hc92=> ?_) (fun hc92=> ?_)
      · skip
        refine aT (hK38 _ ?_)
        clear hK38;try clear K38
        refine al fun K40 hK40=> ?_
        refine aN ?_
        refine ai ?_
        refine ah (am _ bV) ?_
        refine ah (am _ aR) ?_
        first
          | refine ah (br _ _ aa rfl rfl rfl _ rfl ab (by first | exact (Nat.zero_add _).trans (Nat.mul_one _) | exact Nat.zero_add _ | rfl | omega)) ?_
          | refine ah (br _ _ aa rfl rfl rfl (Int.toNat _) (Int.toNat_of_nonneg ab).symm ab (by first | exact (Nat.zero_add _).trans (Nat.mul_one _) | exact Nat.zero_add _ | rfl | omega)) ?_
        refine ah (cz _ _ aa rfl rfl rfl rfl rfl (by exact hq3.fit (k:=j3) ab) rfl) ?_
        refine ak (hK40 _ ?_)
        clear hK40;try clear K40
        refine ai ?_
        refine ah (am _ aR) ?_
        first
          | refine ah (aK _ _ rfl rfl (bQ ab)) ?_
          | refine ah (aK _ _ rfl rfl rfl) ?_
        refine ah (az _ aR) ?_
        refine ak ?_
        refine ⟨(j3+1,bZ q3 j3 [PV.v (.int .i64 97)]),?_,?_,?_⟩
        · exact ⟨by simp only;omega,hq3.put (by simp only [List.length_cons,List.length_nil];omega)⟩
        · skip
          refine Le.mkJ [] [] rfl ?_ ?_ trivial trivial ?_
          · exact ⟨(iP rfl),(iP rfl),(iR rfl),(iV rfl),(iR rfl),(bd (by first | rfl | omega | (simp;done) | (simp;omega) | assumption)),trivial⟩
          · exact ⟨(ay rfl rfl rfl),(ay rfl rfl rfl),(ay rfl rfl rfl),(ay rfl rfl rfl),(ay rfl rfl rfl),(ay rfl rfl rfl),(ay rfl rfl rfl),(ay rfl rfl rfl),(ay rfl rfl rfl),(ay rfl rfl rfl),(bJ rfl rfl rfl (by first | rfl | omega | (simp;done) | (simp;omega) | assumption)),trivial⟩
          kernel_rfl
        omega
      refine bv ?_
      refine id (hK36 _ ?_)
      clear hK36;try clear K36
      refine al fun K41 hK41=> ?_
      refine ai ?_
      first
        | refine ah (aE _ aa rfl rfl rfl rfl) ?_
        | refine ah (aD _ aa rfl rfl (by first | rfl | assumption) rfl) ?_
        | refine ah (aA _ aa rfl (by first | rfl | assumption) rfl) ?_
      first
        | refine ah (aE _ aa rfl rfl rfl rfl) ?_
        | refine ah (aD _ aa rfl rfl (by first | rfl | assumption) rfl) ?_
        | refine ah (aA _ aa rfl (by first | rfl | assumption) rfl) ?_
      refine ah (aX aa (by repeat' (first | exact aJ | refine aG ?_ ?_ | exact Lv.v | exact bd ab | exact Lv.sl | exact Lv.fp | exact Lv.nil | refine Lv.agg rfl ?_ | refine Lv.fn rfl ?_ rfl ?_ | exact ap | refine aj ?_ ?_ | exact Lv.z0)) (hsm) rfl rfl) ?_
      refine ah (eF _ rfl rfl) ?_
      refine ak (hK41 _ ?_)
      clear hK41;try clear K41
      refine cq rfl rfl ?_
      refine aT (hK10 _ ?_)
      clear hK10;try clear K10
      refine ai ?_
      refine ah (am _ aR) ?_
      first
        | refine ah (aK _ _ rfl rfl (bQ ab)) ?_
        | refine ah (aK _ _ rfl rfl rfl) ?_
      refine ah (az _ aR) ?_
      refine ak ?_
      refine ⟨(1+1,a,b,q1,e,f,g,h),?_,?_,?_⟩
      · refine ⟨by simp only;omega,?_,?_,?_,?_,?_,?_,?_⟩ <;> assumption
      · skip
        refine Le.mkJ [] [] rfl ?_ ?_ trivial trivial ?_
        · exact ⟨(iP rfl),(iP rfl),(iR rfl),(bd (by first | rfl | omega | (simp;done) | (simp;omega) | assumption)),trivial⟩
        · exact ⟨(eA rfl rfl rfl rfl (aj (cb (by first | rfl | omega | (simp;done) | (simp;omega) | assumption) (by first | rfl | omega | (simp;done) | (simp;omega) | assumption)) (aj (cb (by first | rfl | omega | (simp;done) | (simp;omega) | assumption) (by first | rfl | omega | (simp;done) | (simp;omega) | assumption)) ap))),(eA rfl rfl rfl rfl (aj (cb (by first | rfl | omega | (simp;done) | (simp;omega) | assumption) (by first | rfl | omega | (simp;done) | (simp;omega) | assumption)) (aj (cb (by first | rfl | omega | (simp;done) | (simp;omega) | assumption) (by first | rfl | omega | (simp;done) | (simp;omega) | assumption)) ap))),(eA rfl rfl rfl rfl (aj (aC rfl (by first | rfl | omega | (simp;done) | (simp;omega) | assumption)) (aj (aC rfl (by first | rfl | omega | (simp;done) | (simp;omega) | assumption)) (aj (aC rfl (by first | rfl | omega | (simp;done) | (simp;omega) | assumption)) (aj (by repeat' (first | exact Lv.v | exact Lv.sl | exact Lv.fp | exact aC rfl rfl | exact aZ rfl | exact Lv.mp | exact Lv.nil | exact Lv.z | exact Lv.dead | refine Lv.agg rfl ?_ | refine Lv.fn rfl ?_ rfl ?_ | refine Lv.tup rfl ?_ | refine Lv.ifc ?_ | exact ap | refine aj ?_ ?_)) (aj (aC rfl (by first | rfl | omega | (simp;done) | (simp;omega) | assumption)) (aj (by repeat' (first | exact Lv.v | exact Lv.sl | exact Lv.fp | exact aC rfl rfl | exact aZ rfl | exact Lv.mp | exact Lv.nil | exact Lv.z | exact Lv.dead | refine Lv.agg rfl ?_ | refine Lv.fn rfl ?_ rfl ?_ | refine Lv.tup rfl ?_ | refine Lv.ifc ?_ | exact ap | refine aj ?_ ?_)) (aj (aC rfl (by first | rfl | omega | (simp;done) | (simp;omega) | assumption)) (aj (by repeat' (first | exact Lv.v | exact Lv.sl | exact Lv.fp | exact aC rfl rfl | exact aZ rfl | exact Lv.mp | exact Lv.nil | exact Lv.z | exact Lv.dead | refine Lv.agg rfl ?_ | refine Lv.fn rfl ?_ rfl ?_ | refine Lv.tup rfl ?_ | refine Lv.ifc ?_ | exact ap | refine aj ?_ ?_)) (aj (aC rfl (by first | rfl | omega | (simp;done) | (simp;omega) | assumption)) (aj (aC rfl (by first | rfl | omega | (simp;done) | (simp;omega) | assumption)) ap))))))))))),(bJ rfl rfl rfl (by first | rfl | omega | (simp;done) | (simp;omega) | assumption)),(bJ rfl rfl rfl (by first | rfl | omega | (simp;done) | (simp;omega) | assumption)),(bJ rfl rfl rfl (by first | rfl | omega | (simp;done) | (simp;omega) | assumption)),(bJ rfl rfl rfl (by first | rfl | omega | (simp;done) | (simp;omega) | assumption)),(bJ rfl rfl rfl (by first | rfl | omega | (simp;done) | (simp;omega) | assumption)),(bJ rfl rfl rfl (by first | rfl | omega | (simp;done) | (simp;omega) | assumption)),(bJ rfl rfl rfl (by first | rfl | omega | (simp;done) | (simp;omega) | assumption)),trivial⟩
        kernel_rfl
      omega
    · skip
      refine ai ?_
      refine ah (az _ aR) ?_
      refine ak (hK12 _ ?_)
      clear hK12;try clear K12
      refine aN ?_
      refine bn (α:=Nat×List PV) (fun y=> y.1≤d.cells.length∧Lq y.2 d.cells.length) 103 [(9,_),(10,_),(12,_),(13,_)] [((9,0),_),((10,0),_),((45,0),_),((33,0),_),((33,1),_),((35,0),_),((41,0),_),((44,0),_),((44,1),_)] (fun y=> [(14, .v (.int .i64 (y.1:Int)))]) (fun y=> [((38,0), .row 3 1 y.2)]) [] [] (fun y=> d.cells.length - y.1) (0,e) ?_ (by
        refine Le.mkJ [] [] rfl ?_ ?_ trivial trivial ?_
        · exact ⟨(iP rfl),(iP rfl),(iR rfl),(iV rfl),(bd (by first | rfl | omega | (simp;done) | (simp;omega) | assumption)),trivial⟩
        · exact ⟨(ay rfl rfl rfl),(ay rfl rfl rfl),(ay rfl rfl rfl),(ay rfl rfl rfl),(ay rfl rfl rfl),(ay rfl rfl rfl),(ay rfl rfl rfl),(ay rfl rfl rfl),(ay rfl rfl rfl),(bJ rfl rfl rfl (by first | rfl | omega | (simp;done) | (simp;omega) | assumption)),trivial⟩
        kernel_rfl) ?_
      · exact ⟨Nat.zero_le _,he⟩
      intro y hy
      obtain ⟨j1,q1⟩:=y
      obtain ⟨hj1,hq1⟩:=hy
      simp only at hj1 hq1 ⊢
      refine al fun K42 hK42=> ?_
      refine al fun K43 hK43=> ?_
      refine ai ?_
      refine ah (am _ aR) ?_
      refine ah (am _ bV) ?_
      refine ah (am _ aR) ?_
      refine ah (bN _ _ aa rfl rfl rfl 2 rfl ab rfl) ?_
      first
        | refine ah (au _ aa rfl rfl rfl) ?_
        | refine ah (aw _ aa rfl rfl) ?_
      first
        | refine ah (aB _ aa rfl rfl dB) ?_
        | refine ah (aH _ aa rfl rfl (by first | rfl | exact an _ _ ab | exact ar _ _ ab | assumption | exact an _ _ ab) rfl) ?_
      first
        | refine ah (bt _ aa rfl rfl) ?_
        | refine ah (bs _ aa rfl rfl) ?_
      first
        | refine ah (aL _ _ rfl rfl (by assumption)) ?_
        | refine ah (aL _ _ rfl rfl rfl) ?_
      refine ak (hK43 _ ?_)
      clear hK43;try clear K43
      refine aY rfl (fun hc59=> ?_) (fun hc59=> ?_)
      · skip
        refine aT (hK42 _ ?_)
        clear hK42;try clear K42
        refine al fun K44 hK44=> ?_
        refine aN ?_
        refine ai ?_
        refine ah (am _ bV) ?_
        refine ah (am _ aR) ?_
        refine ah (bN _ _ aa rfl rfl rfl 2 rfl ab rfl) ?_
        first
          | refine ah (au _ aa rfl rfl rfl) ?_
          | refine ah (aw _ aa rfl rfl) ?_
        first
          | refine ah (aB _ aa rfl rfl dB) ?_
          | refine ah (aH _ aa rfl rfl (by first | rfl | exact an _ _ ab | exact ar _ _ ab | assumption | exact an _ _ ab) rfl) ?_
        refine ah (am _ aR) ?_
        first
          | refine ah (br _ _ aa rfl rfl rfl _ rfl ab (by first | exact (Nat.zero_add _).trans (Nat.mul_one _) | exact Nat.zero_add _ | rfl | omega)) ?_
          | refine ah (br _ _ aa rfl rfl rfl (Int.toNat _) (Int.toNat_of_nonneg ab).symm ab (by first | exact (Nat.zero_add _).trans (Nat.mul_one _) | exact Nat.zero_add _ | rfl | omega)) ?_
        refine ah (cz _ _ aa rfl rfl rfl rfl rfl (by exact hq1.fit (k:=j1) ab) rfl) ?_
        refine ak (hK44 _ ?_)
        clear hK44;try clear K44
        refine bz (σ':=bi 103 [(9,_),(10,_),(12,_),(13,_),(14,_)] [((9,0),_),((10,0),_),((45,0),_),((33,0),_),((33,1),_),((35,0),_),((41,0),_),((44,0),_),((44,1),_),((38,0),_)] [] []) (by
          refine Le.mkJ [] [] rfl ?_ ?_ trivial trivial ?_
          · exact ⟨(iP rfl),(iP rfl),(iR rfl),(iV rfl),(iV rfl),trivial⟩
          · exact ⟨(ay rfl rfl rfl),(ay rfl rfl rfl),(ay rfl rfl rfl),(ay rfl rfl rfl),(ay rfl rfl rfl),(ay rfl rfl rfl),(ay rfl rfl rfl),(ay rfl rfl rfl),(ay rfl rfl rfl),(ay rfl rfl rfl),trivial⟩
          kernel_rfl) ?_
        refine ai ?_
        refine ah (am _ aR) ?_
        first
          | refine ah (aK _ _ rfl rfl (bQ ab)) ?_
          | refine ah (aK _ _ rfl rfl rfl) ?_
        refine ah (az _ aR) ?_
        refine ak ?_
        refine ⟨(j1+1,bZ q1 j1 [PV.v (.int .i64 99)]),?_,?_,?_⟩
        · exact ⟨by simp only;omega,hq1.put (by simp only [List.length_cons,List.length_nil];omega)⟩
        · skip
          refine Le.mkJ [] [] rfl ?_ ?_ trivial trivial ?_
          · exact ⟨(iP rfl),(iP rfl),(iR rfl),(iV rfl),(bd (by first | rfl | omega | (simp;done) | (simp;omega) | assumption)),trivial⟩
          · exact ⟨(ay rfl rfl rfl),(ay rfl rfl rfl),(ay rfl rfl rfl),(ay rfl rfl rfl),(ay rfl rfl rfl),(ay rfl rfl rfl),(ay rfl rfl rfl),(ay rfl rfl rfl),(ay rfl rfl rfl),(bJ rfl rfl rfl (by first | rfl | omega | (simp;done) | (simp;omega) | assumption)),trivial⟩
          kernel_rfl
        omega
      refine bv ?_
      refine id (hK11 _ ?_)
      clear hK11;try clear K11
      refine al fun K45 hK45=> ?_
      refine al fun K46 hK46=> ?_
      refine ai ?_
      refine ah (az _ aR) ?_
      refine ak (hK46 _ ?_)
      clear hK46;try clear K46
      refine aN ?_
      refine bn (α:=Nat) (fun y=> y=0) 103 [(9,_),(10,_),(12,_),(13,_)] [((9,0),_),((10,0),_),((45,0),_),((33,0),_),((33,1),_),((35,0),_),((41,0),_),((44,0),_),((44,1),_),((38,0),_)] (fun y=> [(15, .v (.int .i64 (y:Int)))]) (fun y=> []) [] [] (fun y=> 0) 0 ?_ (by
        refine Le.mkJ [] [] rfl ?_ ?_ trivial trivial ?_
        · exact ⟨(iP rfl),(iP rfl),(iR rfl),(iV rfl),(bd (by first | rfl | omega | (simp;done) | (simp;omega) | assumption)),trivial⟩
        · exact ⟨(ay rfl rfl rfl),(ay rfl rfl rfl),(ay rfl rfl rfl),(ay rfl rfl rfl),(ay rfl rfl rfl),(ay rfl rfl rfl),(ay rfl rfl rfl),(ay rfl rfl rfl),(ay rfl rfl rfl),(ay rfl rfl rfl),trivial⟩
        kernel_rfl) ?_
      · rfl
      intro y hy
      refine al fun K47 hK47=> ?_
      refine al fun K48 hK48=> ?_
      refine ai ?_
      refine ah (am _ aR) ?_
      refine ah (am _ bV) ?_
      refine ah (am _ aR) ?_
      refine ah (bN _ _ aa rfl rfl rfl 2 rfl ab rfl) ?_
      first
        | refine ah (au _ aa rfl rfl rfl) ?_
        | refine ah (aw _ aa rfl rfl) ?_
      first
        | refine ah (aB _ aa rfl rfl dt) ?_
        | refine ah (aB _ aa rfl rfl dB) ?_
        | refine ah (aB _ aa rfl rfl kw) ?_
        | refine ah (aB _ aa rfl rfl (rfl:_=some (AV.z))) ?_
        | refine ah (aH _ aa rfl rfl (by first | rfl | exact an _ _ ab | exact ar _ _ ab | assumption | exact an _ _ ab) rfl) ?_
      first
        | refine ah (bl _ aa rfl) ?_
        | refine ah (bt _ aa rfl rfl) ?_
        | refine ah (dS _ aa rfl) ?_
        | refine ah (bs _ aa rfl rfl) ?_
        | refine ah (op_lenZ _ aa rfl) ?_
      first
        | refine ah (aL _ _ rfl rfl (by assumption)) ?_
        | refine ah (aL _ _ rfl rfl rfl) ?_
      refine ak (hK48 _ ?_)
      clear hK48;try clear K48
      refine cq rfl (decide_eq_false ab) ?_
      refine bv ?_
      refine id (hK45 _ ?_)
      clear hK45;try clear K45
      refine al fun K49 hK49=> ?_
      refine ai ?_
      first
        | refine ah (aE _ aa rfl rfl rfl rfl) ?_
        | refine ah (aD _ aa rfl rfl (by first | rfl | assumption) rfl) ?_
        | refine ah (aA _ aa rfl (by first | rfl | assumption) rfl) ?_
      refine ah (bA aa [((0,8),(88,0))] ?_ (hvw.toI) trivial ⟨rfl,trivial⟩ ⟨rfl,trivial⟩ rfl rfl ac ac) ?_
      · repeat' (first | exact aW | refine aQ ?_ ?_ | exact Lv.v | exact bd (by assumption) | exact bd ab | exact Lv.sl | exact Lv.fp | exact Lv.nil | exact aC rfl rfl | exact aZ rfl | refine Lv.agg rfl ?_ | refine Lv.fn rfl ?_ rfl ?_ | refine Lv.ifc ?_ | exact ap | refine aj ?_ ?_)
      refine ah (az _ bV) ?_
      refine ak (hK49 _ ?_)
      clear hK49;try clear K49
      refine al fun K50 hK50=> ?_
      refine al fun K51 hK51=> ?_
      refine ai ?_
      refine ah (az _ aR) ?_
      refine ak (hK51 _ ?_)
      clear hK51;try clear K51
      refine aN ?_
      refine bn (α:=Nat×List PV) (fun y=> y.1≤d.cells.length∧Lq y.2 d.cells.length) 103 [(9,_),(10,_),(12,_),(13,_),(16,_)] [((9,0),_),((10,0),_),((45,0),_),((33,0),_),((33,1),_),((35,0),_),((41,0),_),((44,0),_),((44,1),_),((38,0),_)] (fun y=> [(17, .v (.int .i64 (y.1:Int)))]) (fun y=> [((88,0), .row 3 1 y.2)]) [] [] (fun y=> d.cells.length - y.1) (0,l2) ?_ (by
        refine Le.mkJ [] [] rfl ?_ ?_ trivial trivial ?_
        · exact ⟨(iP rfl),(iP rfl),(iR rfl),(iV rfl),(iR rfl),(bd (by first | rfl | omega | (simp;done) | (simp;omega) | assumption)),trivial⟩
        · exact ⟨(ay rfl rfl rfl),(ay rfl rfl rfl),(ay rfl rfl rfl),(ay rfl rfl rfl),(ay rfl rfl rfl),(ay rfl rfl rfl),(ay rfl rfl rfl),(ay rfl rfl rfl),(ay rfl rfl rfl),(ay rfl rfl rfl),(bJ rfl rfl rfl (by first | rfl | omega | (simp;done) | (simp;omega) | assumption)),trivial⟩
        kernel_rfl) ?_
      · exact ⟨Nat.zero_le _,e2⟩
      intro y hy
      obtain ⟨j3,q3⟩:=y
      obtain ⟨hj3,hq3⟩:=hy
      simp only at hj3 hq3 ⊢
      refine al fun K52 hK52=> ?_
      refine al fun K53 hK53=> ?_
      refine ai ?_
      refine ah (am _ aR) ?_
      refine ah (am _ bV) ?_
      first
        | refine ah (bt _ aa rfl rfl) ?_
        | refine ah (bs _ aa rfl rfl) ?_
      first
        | refine ah (aL _ _ rfl rfl (by assumption)) ?_
        | refine ah (aL _ _ rfl rfl rfl) ?_
      refine ak (hK53 _ ?_)
      clear hK53;try clear K53
      refine aY rfl (fun hc92=> ?_) (fun hc92=> ?_)
      · skip
        refine aT (hK52 _ ?_)
        clear hK52;try clear K52
        refine al fun K54 hK54=> ?_
        refine aN ?_
        refine ai ?_
        refine ah (am _ bV) ?_
        refine ah (am _ aR) ?_
        first
          | refine ah (br _ _ aa rfl rfl rfl _ rfl ab (by first | exact (Nat.zero_add _).trans (Nat.mul_one _) | exact Nat.zero_add _ | rfl | omega)) ?_
          | refine ah (br _ _ aa rfl rfl rfl (Int.toNat _) (Int.toNat_of_nonneg ab).symm ab (by first | exact (Nat.zero_add _).trans (Nat.mul_one _) | exact Nat.zero_add _ | rfl | omega)) ?_
        refine ah (cz _ _ aa rfl rfl rfl rfl rfl (by exact hq3.fit (k:=j3) ab) rfl) ?_
        refine ak (hK54 _ ?_)
        clear hK54;try clear K54
        refine ai ?_
        refine ah (am _ aR) ?_
        first
          | refine ah (aK _ _ rfl rfl (bQ ab)) ?_
          | refine ah (aK _ _ rfl rfl rfl) ?_
        refine ah (az _ aR) ?_
        refine ak ?_
        refine ⟨(j3+1,bZ q3 j3 [PV.v (.int .i64 97)]),?_,?_,?_⟩
        · exact ⟨by simp only;omega,hq3.put (by simp only [List.length_cons,List.length_nil];omega)⟩
        · skip
          refine Le.mkJ [] [] rfl ?_ ?_ trivial trivial ?_
          · exact ⟨(iP rfl),(iP rfl),(iR rfl),(iV rfl),(iR rfl),(bd (by first | rfl | omega | (simp;done) | (simp;omega) | assumption)),trivial⟩
          · exact ⟨(ay rfl rfl rfl),(ay rfl rfl rfl),(ay rfl rfl rfl),(ay rfl rfl rfl),(ay rfl rfl rfl),(ay rfl rfl rfl),(ay rfl rfl rfl),(ay rfl rfl rfl),(ay rfl rfl rfl),(ay rfl rfl rfl),(bJ rfl rfl rfl (by first | rfl | omega | (simp;done) | (simp;omega) | assumption)),trivial⟩
          kernel_rfl
        omega
      refine bv ?_
      refine id (hK50 _ ?_)
      clear hK50;try clear K50
      refine al fun K55 hK55=> ?_
      refine ai ?_
      first
        | refine ah (aE _ aa rfl rfl rfl rfl) ?_
        | refine ah (aD _ aa rfl rfl (by first | rfl | assumption) rfl) ?_
        | refine ah (aA _ aa rfl (by first | rfl | assumption) rfl) ?_
      first
        | refine ah (aE _ aa rfl rfl rfl rfl) ?_
        | refine ah (aD _ aa rfl rfl (by first | rfl | assumption) rfl) ?_
        | refine ah (aA _ aa rfl (by first | rfl | assumption) rfl) ?_
      refine ah (aX aa (by repeat' (first | exact aJ | refine aG ?_ ?_ | exact Lv.v | exact bd ab | exact Lv.sl | exact Lv.fp | exact Lv.nil | refine Lv.agg rfl ?_ | refine Lv.fn rfl ?_ rfl ?_ | exact ap | refine aj ?_ ?_ | exact Lv.z0)) (hsm) rfl rfl) ?_
      refine ah (eF _ rfl rfl) ?_
      refine ak (hK55 _ ?_)
      clear hK55;try clear K55
      refine cq rfl rfl ?_
      refine aT (hK10 _ ?_)
      clear hK10;try clear K10
      refine ai ?_
      refine ah (am _ aR) ?_
      first
        | refine ah (aK _ _ rfl rfl (bQ ab)) ?_
        | refine ah (aK _ _ rfl rfl rfl) ?_
      refine ah (az _ aR) ?_
      refine ak ?_
      refine ⟨(2+1,a,b,c,q1,f,g,h),?_,?_,?_⟩
      · refine ⟨by simp only;omega,?_,?_,?_,?_,?_,?_,?_⟩ <;> assumption
      · skip
        refine Le.mkJ [] [] rfl ?_ ?_ trivial trivial ?_
        · exact ⟨(iP rfl),(iP rfl),(iR rfl),(bd (by first | rfl | omega | (simp;done) | (simp;omega) | assumption)),trivial⟩
        · exact ⟨(eA rfl rfl rfl rfl (aj (cb (by first | rfl | omega | (simp;done) | (simp;omega) | assumption) (by first | rfl | omega | (simp;done) | (simp;omega) | assumption)) (aj (cb (by first | rfl | omega | (simp;done) | (simp;omega) | assumption) (by first | rfl | omega | (simp;done) | (simp;omega) | assumption)) ap))),(eA rfl rfl rfl rfl (aj (cb (by first | rfl | omega | (simp;done) | (simp;omega) | assumption) (by first | rfl | omega | (simp;done) | (simp;omega) | assumption)) (aj (cb (by first | rfl | omega | (simp;done) | (simp;omega) | assumption) (by first | rfl | omega | (simp;done) | (simp;omega) | assumption)) ap))),(eA rfl rfl rfl rfl (aj (aC rfl (by first | rfl | omega | (simp;done) | (simp;omega) | assumption)) (aj (aC rfl (by first | rfl | omega | (simp;done) | (simp;omega) | assumption)) (aj (aC rfl (by first | rfl | omega | (simp;done) | (simp;omega) | assumption)) (aj (by repeat' (first | exact Lv.v | exact Lv.sl | exact Lv.fp | exact aC rfl rfl | exact aZ rfl | exact Lv.mp | exact Lv.nil | exact Lv.z | exact Lv.dead | refine Lv.agg rfl ?_ | refine Lv.fn rfl ?_ rfl ?_ | refine Lv.tup rfl ?_ | refine Lv.ifc ?_ | exact ap | refine aj ?_ ?_)) (aj (aC rfl (by first | rfl | omega | (simp;done) | (simp;omega) | assumption)) (aj (by repeat' (first | exact Lv.v | exact Lv.sl | exact Lv.fp | exact aC rfl rfl | exact aZ rfl | exact Lv.mp | exact Lv.nil | exact Lv.z | exact Lv.dead | refine Lv.agg rfl ?_ | refine Lv.fn rfl ?_ rfl ?_ | refine Lv.tup rfl ?_ | refine Lv.ifc ?_ | exact ap | refine aj ?_ ?_)) (aj (aC rfl (by first | rfl | omega | (simp;done) | (simp;omega) | assumption)) (aj (by repeat' (first | exact Lv.v | exact Lv.sl | exact Lv.fp | exact aC rfl rfl | exact aZ rfl | exact Lv.mp | exact Lv.nil | exact Lv.z | exact Lv.dead | refine Lv.agg rfl ?_ | refine Lv.fn rfl ?_ rfl ?_ | refine Lv.tup rfl ?_ | refine Lv.ifc ?_ | exact ap | refine aj ?_ ?_)) (aj (aC rfl (by first | rfl | omega | (simp;done) | (simp;omega) | assumption)) (aj (aC rfl (by first | rfl | omega | (simp;done) | (simp;omega) | assumption)) ap))))))))))),(bJ rfl rfl rfl (by first | rfl | omega | (simp;done) | (simp;omega) | assumption)),(bJ rfl rfl rfl (by first | rfl | omega | (simp;done) | (simp;omega) | assumption)),(bJ rfl rfl rfl (by first | rfl | omega | (simp;done) | (simp;omega) | assumption)),(bJ rfl rfl rfl (by first | rfl | omega | (simp;done) | (simp;omega) | assumption)),(bJ rfl rfl rfl (by first | rfl | omega | (simp;done) | (simp;omega) | assumption)),(bJ rfl rfl rfl (by first | rfl | omega | (simp;done) | (simp;omega) | assumption)),(bJ rfl rfl rfl (by first | rfl | omega | (simp;done) | (simp;omega) | assumption)),trivial⟩
        kernel_rfl
      omega
    · skip
      refine ai ?_
      refine ah (az _ aR) ?_
      refine ak (hK12 _ ?_)
      clear hK12;try clear K12
      refine aN ?_
      refine bn (α:=Nat×List PV) (fun y=> y.1≤d.cells.length∧Lq y.2 d.cells.length) 103 [(9,_),(10,_),(12,_),(13,_)] [((9,0),_),((10,0),_),((45,0),_),((33,0),_),((33,1),_),((35,0),_),((38,0),_),((44,0),_),((44,1),_)] (fun y=> [(14, .v (.int .i64 (y.1:Int)))]) (fun y=> [((41,0), .row 3 1 y.2)]) [] [] (fun y=> d.cells.length - y.1) (0,f) ?_ (by
        refine Le.mkJ [] [] rfl ?_ ?_ trivial trivial ?_
        · exact ⟨(iP rfl),(iP rfl),(iR rfl),(iV rfl),(bd (by first | rfl | omega | (simp;done) | (simp;omega) | assumption)),trivial⟩
        · exact ⟨(ay rfl rfl rfl),(ay rfl rfl rfl),(ay rfl rfl rfl),(ay rfl rfl rfl),(ay rfl rfl rfl),(ay rfl rfl rfl),(ay rfl rfl rfl),(ay rfl rfl rfl),(ay rfl rfl rfl),(bJ rfl rfl rfl (by first | rfl | omega | (simp;done) | (simp;omega) | assumption)),trivial⟩
        kernel_rfl) ?_
      · exact ⟨Nat.zero_le _,hf⟩
      intro y hy
      obtain ⟨j1,q1⟩:=y
      obtain ⟨hj1,hq1⟩:=hy
      simp only at hj1 hq1 ⊢
      refine al fun K56 hK56=> ?_
      refine al fun K57 hK57=> ?_
      refine ai ?_
      refine ah (am _ aR) ?_
      refine ah (am _ bV) ?_
      refine ah (am _ aR) ?_
      refine ah (bN _ _ aa rfl rfl rfl 3 rfl ab rfl) ?_
      first
        | refine ah (au _ aa rfl rfl rfl) ?_
        | refine ah (aw _ aa rfl rfl) ?_
      first
        | refine ah (aB _ aa rfl rfl dB) ?_
        | refine ah (aH _ aa rfl rfl (by first | rfl | exact an _ _ ab | exact ar _ _ ab | assumption | exact an _ _ ab) rfl) ?_
      first
        | refine ah (bt _ aa rfl rfl) ?_
        | refine ah (bs _ aa rfl rfl) ?_
      first
        | refine ah (aL _ _ rfl rfl (by assumption)) ?_
        | refine ah (aL _ _ rfl rfl rfl) ?_
      refine ak (hK57 _ ?_)
      clear hK57;try clear K57
      refine aY rfl (fun hc59=> ?_) (fun hc59=> ?_)
      · skip
        refine aT (hK56 _ ?_)
        clear hK56;try clear K56
        refine al fun K58 hK58=> ?_
        refine aN ?_
        refine ai ?_
        refine ah (am _ bV) ?_
        refine ah (am _ aR) ?_
        refine ah (bN _ _ aa rfl rfl rfl 3 rfl ab rfl) ?_
        first
          | refine ah (au _ aa rfl rfl rfl) ?_
          | refine ah (aw _ aa rfl rfl) ?_
        first
          | refine ah (aB _ aa rfl rfl dB) ?_
          | refine ah (aH _ aa rfl rfl (by first | rfl | exact an _ _ ab | exact ar _ _ ab | assumption | exact an _ _ ab) rfl) ?_
        refine ah (am _ aR) ?_
        first
          | refine ah (br _ _ aa rfl rfl rfl _ rfl ab (by first | exact (Nat.zero_add _).trans (Nat.mul_one _) | exact Nat.zero_add _ | rfl | omega)) ?_
          | refine ah (br _ _ aa rfl rfl rfl (Int.toNat _) (Int.toNat_of_nonneg ab).symm ab (by first | exact (Nat.zero_add _).trans (Nat.mul_one _) | exact Nat.zero_add _ | rfl | omega)) ?_
        refine ah (cz _ _ aa rfl rfl rfl rfl rfl (by exact hq1.fit (k:=j1) ab) rfl) ?_
        refine ak (hK58 _ ?_)
        clear hK58;try clear K58
        refine bz (σ':=bi 103 [(9,_),(10,_),(12,_),(13,_),(14,_)] [((9,0),_),((10,0),_),((45,0),_),((33,0),_),((33,1),_),((35,0),_),((38,0),_),((44,0),_),((44,1),_),((41,0),_)] [] []) (by
          refine Le.mkJ [] [] rfl ?_ ?_ trivial trivial ?_
          · exact ⟨(iP rfl),(iP rfl),(iR rfl),(iV rfl),(iV rfl),trivial⟩
          · exact ⟨(ay rfl rfl rfl),(ay rfl rfl rfl),(ay rfl rfl rfl),(ay rfl rfl rfl),(ay rfl rfl rfl),(ay rfl rfl rfl),(ay rfl rfl rfl),(ay rfl rfl rfl),(ay rfl rfl rfl),(ay rfl rfl rfl),trivial⟩
          kernel_rfl) ?_
        refine ai ?_
        refine ah (am _ aR) ?_
        first
          | refine ah (aK _ _ rfl rfl (bQ ab)) ?_
          | refine ah (aK _ _ rfl rfl rfl) ?_
        refine ah (az _ aR) ?_
        refine ak ?_
        refine ⟨(j1+1,bZ q1 j1 [PV.v (.int .i64 99)]),?_,?_,?_⟩
        · exact ⟨by simp only;omega,hq1.put (by simp only [List.length_cons,List.length_nil];omega)⟩
        · skip
          refine Le.mkJ [] [] rfl ?_ ?_ trivial trivial ?_
          · exact ⟨(iP rfl),(iP rfl),(iR rfl),(iV rfl),(bd (by first | rfl | omega | (simp;done) | (simp;omega) | assumption)),trivial⟩
          · exact ⟨(ay rfl rfl rfl),(ay rfl rfl rfl),(ay rfl rfl rfl),(ay rfl rfl rfl),(ay rfl rfl rfl),(ay rfl rfl rfl),(ay rfl rfl rfl),(ay rfl rfl rfl),(ay rfl rfl rfl),(bJ rfl rfl rfl (by first | rfl | omega | (simp;done) | (simp;omega) | assumption)),trivial⟩
          kernel_rfl
        omega
      refine bv ?_
      refine id (hK11 _ ?_)
      clear hK11;try clear K11
      refine al fun K59 hK59=> ?_
      refine al fun K60 hK60=> ?_
      refine ai ?_
      refine ah (az _ aR) ?_
      refine ak (hK60 _ ?_)
      clear hK60;try clear K60
      refine aN ?_
      refine bn (α:=Nat) (fun y=> y=0) 103 [(9,_),(10,_),(12,_),(13,_)] [((9,0),_),((10,0),_),((45,0),_),((33,0),_),((33,1),_),((35,0),_),((38,0),_),((44,0),_),((44,1),_),((41,0),_)] (fun y=> [(15, .v (.int .i64 (y:Int)))]) (fun y=> []) [] [] (fun y=> 0) 0 ?_ (by
        refine Le.mkJ [] [] rfl ?_ ?_ trivial trivial ?_
        · exact ⟨(iP rfl),(iP rfl),(iR rfl),(iV rfl),(bd (by first | rfl | omega | (simp;done) | (simp;omega) | assumption)),trivial⟩
        · exact ⟨(ay rfl rfl rfl),(ay rfl rfl rfl),(ay rfl rfl rfl),(ay rfl rfl rfl),(ay rfl rfl rfl),(ay rfl rfl rfl),(ay rfl rfl rfl),(ay rfl rfl rfl),(ay rfl rfl rfl),(ay rfl rfl rfl),trivial⟩
        kernel_rfl) ?_
      · rfl
      intro y hy
      refine al fun K61 hK61=> ?_
      refine al fun K62 hK62=> ?_
      refine ai ?_
      refine ah (am _ aR) ?_
      refine ah (am _ bV) ?_
      refine ah (am _ aR) ?_
      refine ah (bN _ _ aa rfl rfl rfl 3 rfl ab rfl) ?_
      first
        | refine ah (au _ aa rfl rfl rfl) ?_
        | refine ah (aw _ aa rfl rfl) ?_
      first
        | refine ah (aB _ aa rfl rfl dt) ?_
        | refine ah (aB _ aa rfl rfl dB) ?_
        | refine ah (aB _ aa rfl rfl kw) ?_
        | refine ah (aB _ aa rfl rfl (rfl:_=some (AV.z))) ?_
        | refine ah (aH _ aa rfl rfl (by first | rfl | exact an _ _ ab | exact ar _ _ ab | assumption | exact an _ _ ab) rfl) ?_
      first
        | refine ah (bl _ aa rfl) ?_
        | refine ah (bt _ aa rfl rfl) ?_
        | refine ah (dS _ aa rfl) ?_
        | refine ah (bs _ aa rfl rfl) ?_
        | refine ah (op_lenZ _ aa rfl) ?_
      first
        | refine ah (aL _ _ rfl rfl (by assumption)) ?_
        | refine ah (aL _ _ rfl rfl rfl) ?_
      refine ak (hK62 _ ?_)
      clear hK62;try clear K62
      refine cq rfl (decide_eq_false ab) ?_
      refine bv ?_
      refine id (hK59 _ ?_)
      clear hK59;try clear K59
      refine al fun K63 hK63=> ?_
      refine ai ?_
      first
        | refine ah (aE _ aa rfl rfl rfl rfl) ?_
        | refine ah (aD _ aa rfl rfl (by first | rfl | assumption) rfl) ?_
        | refine ah (aA _ aa rfl (by first | rfl | assumption) rfl) ?_
      refine ah (bA aa [((0,8),(88,0))] ?_ (hvw.toI) trivial ⟨rfl,trivial⟩ ⟨rfl,trivial⟩ rfl rfl ac ac) ?_
      · repeat' (first | exact aW | refine aQ ?_ ?_ | exact Lv.v | exact bd (by assumption) | exact bd ab | exact Lv.sl | exact Lv.fp | exact Lv.nil | exact aC rfl rfl | exact aZ rfl | refine Lv.agg rfl ?_ | refine Lv.fn rfl ?_ rfl ?_ | refine Lv.ifc ?_ | exact ap | refine aj ?_ ?_)
      refine ah (az _ bV) ?_
      refine ak (hK63 _ ?_)
      clear hK63;try clear K63
      refine al fun K64 hK64=> ?_
      refine al fun K65 hK65=> ?_
      refine ai ?_
      refine ah (az _ aR) ?_
      refine ak (hK65 _ ?_)
      clear hK65;try clear K65
      refine aN ?_
      refine bn (α:=Nat×List PV) (fun y=> y.1≤d.cells.length∧Lq y.2 d.cells.length) 103 [(9,_),(10,_),(12,_),(13,_),(16,_)] [((9,0),_),((10,0),_),((45,0),_),((33,0),_),((33,1),_),((35,0),_),((38,0),_),((44,0),_),((44,1),_),((41,0),_)] (fun y=> [(17, .v (.int .i64 (y.1:Int)))]) (fun y=> [((88,0), .row 3 1 y.2)]) [] [] (fun y=> d.cells.length - y.1) (0,l2) ?_ (by
        refine Le.mkJ [] [] rfl ?_ ?_ trivial trivial ?_
        · exact ⟨(iP rfl),(iP rfl),(iR rfl),(iV rfl),(iR rfl),(bd (by first | rfl | omega | (simp;done) | (simp;omega) | assumption)),trivial⟩
        · exact ⟨(ay rfl rfl rfl),(ay rfl rfl rfl),(ay rfl rfl rfl),(ay rfl rfl rfl),(ay rfl rfl rfl),(ay rfl rfl rfl),(ay rfl rfl rfl),(ay rfl rfl rfl),(ay rfl rfl rfl),(ay rfl rfl rfl),(bJ rfl rfl rfl (by first | rfl | omega | (simp;done) | (simp;omega) | assumption)),trivial⟩
        kernel_rfl) ?_
      · exact ⟨Nat.zero_le _,e2⟩
      intro y hy
      obtain ⟨j3,q3⟩:=y
      obtain ⟨hj3,hq3⟩:=hy
      simp only at hj3 hq3 ⊢
      refine al fun K66 hK66=> ?_
      refine al fun K67 hK67=> ?_
      refine ai ?_
      refine ah (am _ aR) ?_
      refine ah (am _ bV) ?_
      first
        | refine ah (bt _ aa rfl rfl) ?_
        | refine ah (bs _ aa rfl rfl) ?_
      first
        | refine ah (aL _ _ rfl rfl (by assumption)) ?_
        | refine ah (aL _ _ rfl rfl rfl) ?_
      refine ak (hK67 _ ?_)
      clear hK67;try clear K67
      refine aY rfl (fun hc92=> ?_) (fun hc92=> ?_)
      · skip
        refine aT (hK66 _ ?_)
        clear hK66;try clear K66
        refine al fun K68 hK68=> ?_
        refine aN ?_
        refine ai ?_
        refine ah (am _ bV) ?_
        refine ah (am _ aR) ?_
        first
          | refine ah (br _ _ aa rfl rfl rfl _ rfl ab (by first | exact (Nat.zero_add _).trans (Nat.mul_one _) | exact Nat.zero_add _ | rfl | omega)) ?_
          | refine ah (br _ _ aa rfl rfl rfl (Int.toNat _) (Int.toNat_of_nonneg ab).symm ab (by first | exact (Nat.zero_add _).trans (Nat.mul_one _) | exact Nat.zero_add _ | rfl | omega)) ?_
        refine ah (cz _ _ aa rfl rfl rfl rfl rfl (by exact hq3.fit (k:=j3) ab) rfl) ?_
        refine ak (hK68 _ ?_)
        clear hK68;try clear K68
        refine ai ?_
        refine ah (am _ aR) ?_
        first
          | refine ah (aK _ _ rfl rfl (bQ ab)) ?_
          | refine ah (aK _ _ rfl rfl rfl) ?_
        refine ah (az _ aR) ?_
        refine ak ?_
        refine ⟨(j3+1,bZ q3 j3 [PV.v (.int .i64 97)]),?_,?_,?_⟩
        · exact ⟨by simp only;omega,hq3.put (by simp only [List.length_cons,List.length_nil];omega)⟩
        · skip
          refine Le.mkJ [] [] rfl ?_ ?_ trivial trivial ?_
          · exact ⟨(iP rfl),(iP rfl),(iR rfl),(iV rfl),(iR rfl),(bd (by first | rfl | omega | (simp;done) | (simp;omega) | assumption)),trivial⟩
          · exact ⟨(ay rfl rfl rfl),(ay rfl rfl rfl),(ay rfl rfl rfl),(ay rfl rfl rfl),(ay rfl rfl rfl),(ay rfl rfl rfl),(ay rfl rfl rfl),(ay rfl rfl rfl),(ay rfl rfl rfl),(ay rfl rfl rfl),(bJ rfl rfl rfl (by first | rfl | omega | (simp;done) | (simp;omega) | assumption)),trivial⟩
          kernel_rfl
        omega
      refine bv ?_
      refine id (hK64 _ ?_)
      clear hK64;try clear K64
      refine al fun K69 hK69=> ?_
      refine ai ?_
      first
        | refine ah (aE _ aa rfl rfl rfl rfl) ?_
        | refine ah (aD _ aa rfl rfl (by first | rfl | assumption) rfl) ?_
        | refine ah (aA _ aa rfl (by first | rfl | assumption) rfl) ?_
      first
        | refine ah (aE _ aa rfl rfl rfl rfl) ?_
        | refine ah (aD _ aa rfl rfl (by first | rfl | assumption) rfl) ?_
        | refine ah (aA _ aa rfl (by first | rfl | assumption) rfl) ?_
      refine ah (aX aa (by repeat' (first | exact aJ | refine aG ?_ ?_ | exact Lv.v | exact bd ab | exact Lv.sl | exact Lv.fp | exact Lv.nil | refine Lv.agg rfl ?_ | refine Lv.fn rfl ?_ rfl ?_ | exact ap | refine aj ?_ ?_ | exact Lv.z0)) (hsm) rfl rfl) ?_
      refine ah (eF _ rfl rfl) ?_
      refine ak (hK69 _ ?_)
      clear hK69;try clear K69
      refine cq rfl rfl ?_
      refine aT (hK10 _ ?_)
      clear hK10;try clear K10
      refine ai ?_
      refine ah (am _ aR) ?_
      first
        | refine ah (aK _ _ rfl rfl (bQ ab)) ?_
        | refine ah (aK _ _ rfl rfl rfl) ?_
      refine ah (az _ aR) ?_
      refine ak ?_
      refine ⟨(3+1,a,b,c,e,q1,g,h),?_,?_,?_⟩
      · refine ⟨by simp only;omega,?_,?_,?_,?_,?_,?_,?_⟩ <;> assumption
      · skip
        refine Le.mkJ [] [] rfl ?_ ?_ trivial trivial ?_
        · exact ⟨(iP rfl),(iP rfl),(iR rfl),(bd (by first | rfl | omega | (simp;done) | (simp;omega) | assumption)),trivial⟩
        · exact ⟨(eA rfl rfl rfl rfl (aj (cb (by first | rfl | omega | (simp;done) | (simp;omega) | assumption) (by first | rfl | omega | (simp;done) | (simp;omega) | assumption)) (aj (cb (by first | rfl | omega | (simp;done) | (simp;omega) | assumption) (by first | rfl | omega | (simp;done) | (simp;omega) | assumption)) ap))),(eA rfl rfl rfl rfl (aj (cb (by first | rfl | omega | (simp;done) | (simp;omega) | assumption) (by first | rfl | omega | (simp;done) | (simp;omega) | assumption)) (aj (cb (by first | rfl | omega | (simp;done) | (simp;omega) | assumption) (by first | rfl | omega | (simp;done) | (simp;omega) | assumption)) ap))),(eA rfl rfl rfl rfl (aj (aC rfl (by first | rfl | omega | (simp;done) | (simp;omega) | assumption)) (aj (aC rfl (by first | rfl | omega | (simp;done) | (simp;omega) | assumption)) (aj (aC rfl (by first | rfl | omega | (simp;done) | (simp;omega) | assumption)) (aj (by repeat' (first | exact Lv.v | exact Lv.sl | exact Lv.fp | exact aC rfl rfl | exact aZ rfl | exact Lv.mp | exact Lv.nil | exact Lv.z | exact Lv.dead | refine Lv.agg rfl ?_ | refine Lv.fn rfl ?_ rfl ?_ | refine Lv.tup rfl ?_ | refine Lv.ifc ?_ | exact ap | refine aj ?_ ?_)) (aj (aC rfl (by first | rfl | omega | (simp;done) | (simp;omega) | assumption)) (aj (by repeat' (first | exact Lv.v | exact Lv.sl | exact Lv.fp | exact aC rfl rfl | exact aZ rfl | exact Lv.mp | exact Lv.nil | exact Lv.z | exact Lv.dead | refine Lv.agg rfl ?_ | refine Lv.fn rfl ?_ rfl ?_ | refine Lv.tup rfl ?_ | refine Lv.ifc ?_ | exact ap | refine aj ?_ ?_)) (aj (aC rfl (by first | rfl | omega | (simp;done) | (simp;omega) | assumption)) (aj (by repeat' (first | exact Lv.v | exact Lv.sl | exact Lv.fp | exact aC rfl rfl | exact aZ rfl | exact Lv.mp | exact Lv.nil | exact Lv.z | exact Lv.dead | refine Lv.agg rfl ?_ | refine Lv.fn rfl ?_ rfl ?_ | refine Lv.tup rfl ?_ | refine Lv.ifc ?_ | exact ap | refine aj ?_ ?_)) (aj (aC rfl (by first | rfl | omega | (simp;done) | (simp;omega) | assumption)) (aj (aC rfl (by first | rfl | omega | (simp;done) | (simp;omega) | assumption)) ap))))))))))),(bJ rfl rfl rfl (by first | rfl | omega | (simp;done) | (simp;omega) | assumption)),(bJ rfl rfl rfl (by first | rfl | omega | (simp;done) | (simp;omega) | assumption)),(bJ rfl rfl rfl (by first | rfl | omega | (simp;done) | (simp;omega) | assumption)),(bJ rfl rfl rfl (by first | rfl | omega | (simp;done) | (simp;omega) | assumption)),(bJ rfl rfl rfl (by first | rfl | omega | (simp;done) | (simp;omega) | assumption)),(bJ rfl rfl rfl (by first | rfl | omega | (simp;done) | (simp;omega) | assumption)),(bJ rfl rfl rfl (by first | rfl | omega | (simp;done) | (simp;omega) | assumption)),trivial⟩
        kernel_rfl
      omega
    refine ai ?_
    refine ah (az _ aR) ?_
    refine ak (hK12 _ ?_)
    clear hK12;try clear K12
    refine aN ?_
    refine bn (α:=Nat×List PV) (fun y=> y.1≤d.cells.length∧Lq y.2 d.cells.length) 103 [(9,_),(10,_),(12,_),(13,_)] [((9,0),_),((10,0),_),((45,0),_),((33,0),_),((33,1),_),((35,0),_),((38,0),_),((41,0),_),((44,1),_)] (fun y=> [(14, .v (.int .i64 (y.1:Int)))]) (fun y=> [((44,0), .row 3 1 y.2)]) [] [] (fun y=> d.cells.length - y.1) (0,g) ?_ (by
      refine Le.mkJ [] [] rfl ?_ ?_ trivial trivial ?_
      · exact ⟨(iP rfl),(iP rfl),(iR rfl),(iV rfl),(bd (by first | rfl | omega | (simp;done) | (simp;omega) | assumption)),trivial⟩
      · exact ⟨(ay rfl rfl rfl),(ay rfl rfl rfl),(ay rfl rfl rfl),(ay rfl rfl rfl),(ay rfl rfl rfl),(ay rfl rfl rfl),(ay rfl rfl rfl),(ay rfl rfl rfl),(ay rfl rfl rfl),(bJ rfl rfl rfl (by first | rfl | omega | (simp;done) | (simp;omega) | assumption)),trivial⟩
      kernel_rfl) ?_
    · exact ⟨Nat.zero_le _,hg⟩
    intro y hy
    obtain ⟨j1,q1⟩:=y
    obtain ⟨hj1,hq1⟩:=hy
    simp only at hj1 hq1 ⊢
    refine al fun K70 hK70=> ?_
    refine al fun K71 hK71=> ?_
    refine ai ?_
    refine ah (am _ aR) ?_
    refine ah (am _ bV) ?_
    refine ah (am _ aR) ?_
    refine ah (bN _ _ aa rfl rfl rfl 4 rfl ab rfl) ?_
    first
      | refine ah (au _ aa rfl rfl rfl) ?_
      | refine ah (aw _ aa rfl rfl) ?_
    first
      | refine ah (aB _ aa rfl rfl dB) ?_
      | refine ah (aH _ aa rfl rfl (by first | rfl | exact an _ _ ab | exact ar _ _ ab | assumption | exact an _ _ ab) rfl) ?_
    first
      | refine ah (bt _ aa rfl rfl) ?_
      | refine ah (bs _ aa rfl rfl) ?_
    first
      | refine ah (aL _ _ rfl rfl (by assumption)) ?_
      | refine ah (aL _ _ rfl rfl rfl) ?_
    refine ak (hK71 _ ?_)
    clear hK71;try clear K71
    refine aY rfl (fun hc59=> ?_) (fun hc59=> ?_)
    · skip
      refine aT (hK70 _ ?_)
      clear hK70;try clear K70
      refine al fun K72 hK72=> ?_
      refine aN ?_
      refine ai ?_
      refine ah (am _ bV) ?_
      refine ah (am _ aR) ?_
      refine ah (bN _ _ aa rfl rfl rfl 4 rfl ab rfl) ?_
      first
        | refine ah (au _ aa rfl rfl rfl) ?_
        | refine ah (aw _ aa rfl rfl) ?_
      first
        | refine ah (aB _ aa rfl rfl dB) ?_
        | refine ah (aH _ aa rfl rfl (by first | rfl | exact an _ _ ab | exact ar _ _ ab | assumption | exact an _ _ ab) rfl) ?_
      refine ah (am _ aR) ?_
      first
        | refine ah (br _ _ aa rfl rfl rfl _ rfl ab (by first | exact (Nat.zero_add _).trans (Nat.mul_one _) | exact Nat.zero_add _ | rfl | omega)) ?_
        | refine ah (br _ _ aa rfl rfl rfl (Int.toNat _) (Int.toNat_of_nonneg ab).symm ab (by first | exact (Nat.zero_add _).trans (Nat.mul_one _) | exact Nat.zero_add _ | rfl | omega)) ?_
      refine ah (cz _ _ aa rfl rfl rfl rfl rfl (by exact hq1.fit (k:=j1) ab) rfl) ?_
      refine ak (hK72 _ ?_)
      clear hK72;try clear K72
      refine bz (σ':=bi 103 [(9,_),(10,_),(12,_),(13,_),(14,_)] [((9,0),_),((10,0),_),((45,0),_),((33,0),_),((33,1),_),((35,0),_),((38,0),_),((41,0),_),((44,1),_),((44,0),_)] [] []) (by
        refine Le.mkJ [] [] rfl ?_ ?_ trivial trivial ?_
        · exact ⟨(iP rfl),(iP rfl),(iR rfl),(iV rfl),(iV rfl),trivial⟩
        · exact ⟨(ay rfl rfl rfl),(ay rfl rfl rfl),(ay rfl rfl rfl),(ay rfl rfl rfl),(ay rfl rfl rfl),(ay rfl rfl rfl),(ay rfl rfl rfl),(ay rfl rfl rfl),(ay rfl rfl rfl),(ay rfl rfl rfl),trivial⟩
        kernel_rfl) ?_
      refine ai ?_
      refine ah (am _ aR) ?_
      first
        | refine ah (aK _ _ rfl rfl (bQ ab)) ?_
        | refine ah (aK _ _ rfl rfl rfl) ?_
      refine ah (az _ aR) ?_
      refine ak ?_
      refine ⟨(j1+1,bZ q1 j1 [PV.v (.int .i64 99)]),?_,?_,?_⟩
      · exact ⟨by simp only;omega,hq1.put (by simp only [List.length_cons,List.length_nil];omega)⟩
      · skip
        refine Le.mkJ [] [] rfl ?_ ?_ trivial trivial ?_
        · exact ⟨(iP rfl),(iP rfl),(iR rfl),(iV rfl),(bd (by first | rfl | omega | (simp;done) | (simp;omega) | assumption)),trivial⟩
        · exact ⟨(ay rfl rfl rfl),(ay rfl rfl rfl),(ay rfl rfl rfl),(ay rfl rfl rfl),(ay rfl rfl rfl),(ay rfl rfl rfl),(ay rfl rfl rfl),(ay rfl rfl rfl),(ay rfl rfl rfl),(bJ rfl rfl rfl (by first | rfl | omega | (simp;done) | (simp;omega) | assumption)),trivial⟩
        kernel_rfl
      omega
    refine bv ?_
    refine id (hK11 _ ?_)
    clear hK11;try clear K11
    refine al fun K73 hK73=> ?_
    refine al fun K74 hK74=> ?_
    refine ai ?_
    refine ah (az _ aR) ?_
    refine ak (hK74 _ ?_)
    clear hK74;try clear K74
    refine aN ?_
    refine bn (α:=Nat×List PV) (fun y=> y.1≤m6∧Lq y.2 x6.length) 103 [(9,_),(10,_),(12,_),(13,_)] [((9,0),_),((10,0),_),((45,0),_),((33,0),_),((33,1),_),((35,0),_),((38,0),_),((41,0),_),((44,0),_)] (fun y=> [(15, .v (.int .i64 (y.1:Int)))]) (fun y=> [((44,1), .row 35 2 y.2)]) [] [] (fun y=> m6 - y.1) (0,h) ?_ (by
      refine Le.mkJ [] [] rfl ?_ ?_ trivial trivial ?_
      · exact ⟨(iP rfl),(iP rfl),(iR rfl),(iV rfl),(bd (by first | rfl | omega | (simp;done) | (simp;omega) | assumption)),trivial⟩
      · exact ⟨(ay rfl rfl rfl),(ay rfl rfl rfl),(ay rfl rfl rfl),(ay rfl rfl rfl),(ay rfl rfl rfl),(ay rfl rfl rfl),(ay rfl rfl rfl),(ay rfl rfl rfl),(ay rfl rfl rfl),(bJ rfl rfl rfl (by first | rfl | omega | (simp;done) | (simp;omega) | assumption)),trivial⟩
      kernel_rfl) ?_
    · exact ⟨Nat.zero_le _,hh⟩
    intro y hy
    obtain ⟨j2,q2⟩:=y
    obtain ⟨hj2,hq2⟩:=hy
    simp only at hj2 hq2 ⊢
    refine al fun K75 hK75=> ?_
    refine al fun K76 hK76=> ?_
    refine ai ?_
    refine ah (am _ aR) ?_
    refine ah (am _ bV) ?_
    refine ah (am _ aR) ?_
    refine ah (bN _ _ aa rfl rfl rfl 4 rfl ab rfl) ?_
    first
      | refine ah (au _ aa rfl rfl rfl) ?_
      | refine ah (aw _ aa rfl rfl) ?_
    first
      | refine ah (aB _ aa rfl rfl dB) ?_
      | refine ah (aH _ aa rfl rfl (by first | rfl | exact an _ _ ab | exact ar _ _ ab | assumption | exact an _ _ ab) rfl) ?_
    first
      | refine ah (bt _ aa rfl rfl) ?_
      | refine ah (bs _ aa rfl rfl) ?_
    first
      | refine ah (aL _ _ rfl rfl (by assumption)) ?_
      | refine ah (aL _ _ rfl rfl rfl) ?_
    refine ak (hK76 _ ?_)
    clear hK76;try clear K76
    refine aY rfl (fun hc76=> ?_) (fun hc76=> ?_)
    · skip
      refine aT (hK75 _ ?_)
      clear hK75;try clear K75
      refine al fun K77 hK77=> ?_
      refine aN ?_
      refine ai ?_
      refine ah (am _ bV) ?_
      refine ah (am _ aR) ?_
      refine ah (bN _ _ aa rfl rfl rfl 4 rfl ab rfl) ?_
      first
        | refine ah (au _ aa rfl rfl rfl) ?_
        | refine ah (aw _ aa rfl rfl) ?_
      first
        | refine ah (aB _ aa rfl rfl dB) ?_
        | refine ah (aH _ aa rfl rfl (by first | rfl | exact an _ _ ab | exact ar _ _ ab | assumption | exact an _ _ ab) rfl) ?_
      refine ah (am _ aR) ?_
      refine ah (bE _ aa rfl (by exact hY)) ?_
      first
        | refine ah (br _ _ aa rfl rfl rfl _ rfl ab (by first | exact (Nat.zero_add _).trans (Nat.mul_one _) | exact Nat.zero_add _ | rfl | omega)) ?_
        | refine ah (br _ _ aa rfl rfl rfl (Int.toNat _) (Int.toNat_of_nonneg ab).symm ab (by first | exact (Nat.zero_add _).trans (Nat.mul_one _) | exact Nat.zero_add _ | rfl | omega)) ?_
      refine ah (cz _ _ aa rfl rfl rfl rfl rfl (by exact E6.fit hq2 ab) rfl) ?_
      refine ak (hK77 _ ?_)
      clear hK77;try clear K77
      refine bz (σ':=bi 103 [(9,_),(10,_),(12,_),(13,_),(15,_)] [((9,0),_),((10,0),_),((45,0),_),((33,0),_),((33,1),_),((35,0),_),((38,0),_),((41,0),_),((44,0),_),((44,1),_)] [] []) (by
        refine Le.mkJ [] [] rfl ?_ ?_ trivial trivial ?_
        · exact ⟨(iP rfl),(iP rfl),(iR rfl),(iV rfl),(iV rfl),trivial⟩
        · exact ⟨(ay rfl rfl rfl),(ay rfl rfl rfl),(ay rfl rfl rfl),(ay rfl rfl rfl),(ay rfl rfl rfl),(ay rfl rfl rfl),(ay rfl rfl rfl),(ay rfl rfl rfl),(ay rfl rfl rfl),(ay rfl rfl rfl),trivial⟩
        kernel_rfl) ?_
      refine ai ?_
      refine ah (am _ aR) ?_
      first
        | refine ah (aK _ _ rfl rfl (bQ ab)) ?_
        | refine ah (aK _ _ rfl rfl rfl) ?_
      refine ah (az _ aR) ?_
      refine ak ?_
      refine ⟨(j2+1,bZ q2 (o6+j2*2) [PV.v (.int .i64 0),PV.v (.int .i64 98)]),?_,?_,?_⟩
      · exact ⟨by simp only;omega,hq2.put (E6.fit' ab)⟩
      · skip
        refine Le.mkJ [] [] rfl ?_ ?_ trivial trivial ?_
        · exact ⟨(iP rfl),(iP rfl),(iR rfl),(iV rfl),(bd (by first | rfl | omega | (simp;done) | (simp;omega) | assumption)),trivial⟩
        · exact ⟨(ay rfl rfl rfl),(ay rfl rfl rfl),(ay rfl rfl rfl),(ay rfl rfl rfl),(ay rfl rfl rfl),(ay rfl rfl rfl),(ay rfl rfl rfl),(ay rfl rfl rfl),(ay rfl rfl rfl),(bJ rfl rfl rfl (by first | rfl | omega | (simp;done) | (simp;omega) | assumption)),trivial⟩
        kernel_rfl
      omega
    refine bv ?_
    refine id (hK73 _ ?_)
    clear hK73;try clear K73
    refine al fun K78 hK78=> ?_
    refine ai ?_
    first
      | refine ah (aE _ aa rfl rfl rfl rfl) ?_
      | refine ah (aD _ aa rfl rfl (by first | rfl | assumption) rfl) ?_
      | refine ah (aA _ aa rfl (by first | rfl | assumption) rfl) ?_
    refine ah (bA aa [((0,8),(88,0))] ?_ (hvw.toI) trivial ⟨rfl,trivial⟩ ⟨rfl,trivial⟩ rfl rfl ac ac) ?_
    · repeat' (first | exact aW | refine aQ ?_ ?_ | exact Lv.v | exact bd (by assumption) | exact bd ab | exact Lv.sl | exact Lv.fp | exact Lv.nil | exact aC rfl rfl | exact aZ rfl | refine Lv.agg rfl ?_ | refine Lv.fn rfl ?_ rfl ?_ | refine Lv.ifc ?_ | exact ap | refine aj ?_ ?_)
    refine ah (az _ bV) ?_
    refine ak (hK78 _ ?_)
    clear hK78;try clear K78
    refine al fun K79 hK79=> ?_
    refine al fun K80 hK80=> ?_
    refine ai ?_
    refine ah (az _ aR) ?_
    refine ak (hK80 _ ?_)
    clear hK80;try clear K80
    refine aN ?_
    refine bn (α:=Nat×List PV) (fun y=> y.1≤d.cells.length∧Lq y.2 d.cells.length) 103 [(9,_),(10,_),(12,_),(13,_),(16,_)] [((9,0),_),((10,0),_),((45,0),_),((33,0),_),((33,1),_),((35,0),_),((38,0),_),((41,0),_),((44,0),_),((44,1),_)] (fun y=> [(17, .v (.int .i64 (y.1:Int)))]) (fun y=> [((88,0), .row 3 1 y.2)]) [] [] (fun y=> d.cells.length - y.1) (0,l2) ?_ (by
      refine Le.mkJ [] [] rfl ?_ ?_ trivial trivial ?_
      · exact ⟨(iP rfl),(iP rfl),(iR rfl),(iV rfl),(iR rfl),(bd (by first | rfl | omega | (simp;done) | (simp;omega) | assumption)),trivial⟩
      · exact ⟨(ay rfl rfl rfl),(ay rfl rfl rfl),(ay rfl rfl rfl),(ay rfl rfl rfl),(ay rfl rfl rfl),(ay rfl rfl rfl),(ay rfl rfl rfl),(ay rfl rfl rfl),(ay rfl rfl rfl),(ay rfl rfl rfl),(bJ rfl rfl rfl (by first | rfl | omega | (simp;done) | (simp;omega) | assumption)),trivial⟩
      kernel_rfl) ?_
    · exact ⟨Nat.zero_le _,e2⟩
    intro y hy
    obtain ⟨j3,q3⟩:=y
    obtain ⟨hj3,hq3⟩:=hy
    simp only at hj3 hq3 ⊢
    refine al fun K81 hK81=> ?_
    refine al fun K82 hK82=> ?_
    refine ai ?_
    refine ah (am _ aR) ?_
    refine ah (am _ bV) ?_
    first
      | refine ah (bt _ aa rfl rfl) ?_
      | refine ah (bs _ aa rfl rfl) ?_
    first
      | refine ah (aL _ _ rfl rfl (by assumption)) ?_
      | refine ah (aL _ _ rfl rfl rfl) ?_
    refine ak (hK82 _ ?_)
    clear hK82;try clear K82
    refine aY rfl (fun hc92=> ?_) (fun hc92=> ?_)
    · skip
      refine aT (hK81 _ ?_)
      clear hK81;try clear K81
      refine al fun K83 hK83=> ?_
      refine aN ?_
      refine ai ?_
      refine ah (am _ bV) ?_
      refine ah (am _ aR) ?_
      first
        | refine ah (br _ _ aa rfl rfl rfl _ rfl ab (by first | exact (Nat.zero_add _).trans (Nat.mul_one _) | exact Nat.zero_add _ | rfl | omega)) ?_
        | refine ah (br _ _ aa rfl rfl rfl (Int.toNat _) (Int.toNat_of_nonneg ab).symm ab (by first | exact (Nat.zero_add _).trans (Nat.mul_one _) | exact Nat.zero_add _ | rfl | omega)) ?_
      refine ah (cz _ _ aa rfl rfl rfl rfl rfl (by exact hq3.fit (k:=j3) ab) rfl) ?_
      refine ak (hK83 _ ?_)
      clear hK83;try clear K83
      refine ai ?_
      refine ah (am _ aR) ?_
      first
        | refine ah (aK _ _ rfl rfl (bQ ab)) ?_
        | refine ah (aK _ _ rfl rfl rfl) ?_
      refine ah (az _ aR) ?_
      refine ak ?_
      refine ⟨(j3+1,bZ q3 j3 [PV.v (.int .i64 97)]),?_,?_,?_⟩
      · exact ⟨by simp only;omega,hq3.put (by simp only [List.length_cons,List.length_nil];omega)⟩
      · skip
        refine Le.mkJ [] [] rfl ?_ ?_ trivial trivial ?_
        · exact ⟨(iP rfl),(iP rfl),(iR rfl),(iV rfl),(iR rfl),(bd (by first | rfl | omega | (simp;done) | (simp;omega) | assumption)),trivial⟩
        · exact ⟨(ay rfl rfl rfl),(ay rfl rfl rfl),(ay rfl rfl rfl),(ay rfl rfl rfl),(ay rfl rfl rfl),(ay rfl rfl rfl),(ay rfl rfl rfl),(ay rfl rfl rfl),(ay rfl rfl rfl),(ay rfl rfl rfl),(bJ rfl rfl rfl (by first | rfl | omega | (simp;done) | (simp;omega) | assumption)),trivial⟩
        kernel_rfl
      omega
    refine bv ?_
    refine id (hK79 _ ?_)
    clear hK79;try clear K79
    refine al fun K84 hK84=> ?_
    refine ai ?_
    first
      | refine ah (aE _ aa rfl rfl rfl rfl) ?_
      | refine ah (aD _ aa rfl rfl (by first | rfl | assumption) rfl) ?_
      | refine ah (aA _ aa rfl (by first | rfl | assumption) rfl) ?_
    first
      | refine ah (aE _ aa rfl rfl rfl rfl) ?_
      | refine ah (aD _ aa rfl rfl (by first | rfl | assumption) rfl) ?_
      | refine ah (aA _ aa rfl (by first | rfl | assumption) rfl) ?_
    refine ah (aX aa (by repeat' (first | exact aJ | refine aG ?_ ?_ | exact Lv.v | exact bd ab | exact Lv.sl | exact Lv.fp | exact Lv.nil | refine Lv.agg rfl ?_ | refine Lv.fn rfl ?_ rfl ?_ | exact ap | refine aj ?_ ?_ | exact Lv.z0)) (hsm) rfl rfl) ?_
    refine ah (eF _ rfl rfl) ?_
    refine ak (hK84 _ ?_)
    clear hK84;try clear K84
    refine cq rfl rfl ?_
    refine aT (hK10 _ ?_)
    clear hK10;try clear K10
    refine ai ?_
    refine ah (am _ aR) ?_
    first
      | refine ah (aK _ _ rfl rfl (bQ ab)) ?_
      | refine ah (aK _ _ rfl rfl rfl) ?_
    refine ah (az _ aR) ?_
    refine ak ?_
    refine ⟨(4+1,a,b,c,e,f,q1,q2),?_,?_,?_⟩
    · refine ⟨by simp only;omega,?_,?_,?_,?_,?_,?_,?_⟩ <;> assumption
    · skip
      refine Le.mkJ [] [] rfl ?_ ?_ trivial trivial ?_
      · exact ⟨(iP rfl),(iP rfl),(iR rfl),(bd (by first | rfl | omega | (simp;done) | (simp;omega) | assumption)),trivial⟩
      · exact ⟨(eA rfl rfl rfl rfl (aj (cb (by first | rfl | omega | (simp;done) | (simp;omega) | assumption) (by first | rfl | omega | (simp;done) | (simp;omega) | assumption)) (aj (cb (by first | rfl | omega | (simp;done) | (simp;omega) | assumption) (by first | rfl | omega | (simp;done) | (simp;omega) | assumption)) ap))),(eA rfl rfl rfl rfl (aj (cb (by first | rfl | omega | (simp;done) | (simp;omega) | assumption) (by first | rfl | omega | (simp;done) | (simp;omega) | assumption)) (aj (cb (by first | rfl | omega | (simp;done) | (simp;omega) | assumption) (by first | rfl | omega | (simp;done) | (simp;omega) | assumption)) ap))),(eA rfl rfl rfl rfl (aj (aC rfl (by first | rfl | omega | (simp;done) | (simp;omega) | assumption)) (aj (aC rfl (by first | rfl | omega | (simp;done) | (simp;omega) | assumption)) (aj (aC rfl (by first | rfl | omega | (simp;done) | (simp;omega) | assumption)) (aj (by repeat' (first | exact Lv.v | exact Lv.sl | exact Lv.fp | exact aC rfl rfl | exact aZ rfl | exact Lv.mp | exact Lv.nil | exact Lv.z | exact Lv.dead | refine Lv.agg rfl ?_ | refine Lv.fn rfl ?_ rfl ?_ | refine Lv.tup rfl ?_ | refine Lv.ifc ?_ | exact ap | refine aj ?_ ?_)) (aj (aC rfl (by first | rfl | omega | (simp;done) | (simp;omega) | assumption)) (aj (by repeat' (first | exact Lv.v | exact Lv.sl | exact Lv.fp | exact aC rfl rfl | exact aZ rfl | exact Lv.mp | exact Lv.nil | exact Lv.z | exact Lv.dead | refine Lv.agg rfl ?_ | refine Lv.fn rfl ?_ rfl ?_ | refine Lv.tup rfl ?_ | refine Lv.ifc ?_ | exact ap | refine aj ?_ ?_)) (aj (aC rfl (by first | rfl | omega | (simp;done) | (simp;omega) | assumption)) (aj (by repeat' (first | exact Lv.v | exact Lv.sl | exact Lv.fp | exact aC rfl rfl | exact aZ rfl | exact Lv.mp | exact Lv.nil | exact Lv.z | exact Lv.dead | refine Lv.agg rfl ?_ | refine Lv.fn rfl ?_ rfl ?_ | refine Lv.tup rfl ?_ | refine Lv.ifc ?_ | exact ap | refine aj ?_ ?_)) (aj (aC rfl (by first | rfl | omega | (simp;done) | (simp;omega) | assumption)) (aj (aC rfl (by first | rfl | omega | (simp;done) | (simp;omega) | assumption)) ap))))))))))),(bJ rfl rfl rfl (by first | rfl | omega | (simp;done) | (simp;omega) | assumption)),(bJ rfl rfl rfl (by first | rfl | omega | (simp;done) | (simp;omega) | assumption)),(bJ rfl rfl rfl (by first | rfl | omega | (simp;done) | (simp;omega) | assumption)),(bJ rfl rfl rfl (by first | rfl | omega | (simp;done) | (simp;omega) | assumption)),(bJ rfl rfl rfl (by first | rfl | omega | (simp;done) | (simp;omega) | assumption)),(bJ rfl rfl rfl (by first | rfl | omega | (simp;done) | (simp;omega) | assumption)),(bJ rfl rfl rfl (by first | rfl | omega | (simp;done) | (simp;omega) | assumption)),trivial⟩
      kernel_rfl
    omega
  refine bv ?_
  refine id (hK6 _ ?_)
  clear hK6;try clear K6
  refine al fun K85 hK85=> ?_
  refine ai ?_
  refine ah (aX aa (by repeat' (first | exact aJ | refine aG ?_ ?_ | exact Lv.v | exact bd ab | exact Lv.sl | exact Lv.fp | exact Lv.nil | refine Lv.agg rfl ?_ | refine Lv.fn rfl ?_ rfl ?_ | exact ap | refine aj ?_ ?_ | exact Lv.z0)) (hlv) rfl rfl) ?_
  refine ah (az _ cw) ?_
  refine ak (hK85 _ ?_)
  clear hK85;try clear K85
  refine bp ?_
  exact lO rfl rfl
theorem gz (cells:Int) (hc: -9223372036854775808≤cells∧cells≤9223372036854775807) (n0:Nat) (l:List Int) (h0:l.length=n0) (g0:n0≤4611686018427387904) (r0:Rng l) (cell value:Int) (h2: -9223372036854775808≤cell∧cell≤9223372036854775807):
    Spec Try.prog 3 (bq [.v (.int .i64 cells), .sl n0 (bG l), .v (.int .i64 cell), .v (.int .i64 value)] []) (bc (.v (.bool true)) []):=by
  subst h0
  have ha0:=eb cells 7 ab
  have ha1:=dW cells 7 ab
  exact jt _ (DkG.run _ ab _) cells cell value _ _ (ii cells hc l g0 r0) (gC cells hc l g0 r0) h2
end Go.Proofs.Ytmjnackchaahbaa
