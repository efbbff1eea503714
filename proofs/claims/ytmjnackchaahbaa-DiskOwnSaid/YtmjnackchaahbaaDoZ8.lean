/- part 8 -/
import Derived.Laws.StructEq
import Derived.Test.YtmjnackchaahbaaDoZ7
set_option linter.unusedSimpArgs false
set_option linter.unusedVariables false
namespace Go.Proofs.Ytmjnackchaahbaa
open Go.RowKit

def bits (n:Int) (j:Nat):List Bool:=(List.range j).map fun i=> (n / 1000 / 2 ^ i) % 2==1
theorem bU (n:Int) (j:Nat):(bits n j).length=j:=by simp [bits]
theorem fT (n:Int) (j:Nat):cA (bits n j)++[.v (.bool ((n / 1000 / 2 ^ j) % 2==1))]=cA (bits n (j+1)):=by
  simp [bits,cA,List.range_succ]
def eW (n:Int):Int:=if n % 16=0 then 1 else if n % 16=1∨n % 16=2 then 2 else if n % 16=3 then 3 else 0
def ee (n:Int):Int:=if n % 16=3 then n / 16 % 17 else n / 16 % 7 - 1
def ff (n:Int):Int:=n / 112 % 9 - 4
def eh (n:Int):List Bool:=if n % 16=1∨n % 16=2 then bits n (n / 16 % 6).toNat else []
def fO (n:Int):List PV:=[.v (.int .i64 (eW n)), .v (.int .i64 (ee n)), .v (.int .i64 (ff n)), .sl (eh n).length (cA (eh n))]
def jN (l:List Int):List PV:=l.flatMap fun x=> fO (cc x 1000000)
theorem bR (l:List Int):(jN l).length=l.length*4:=hU _ 4 (fun _=> rfl) l
theorem jo (l:List Int) (k:Nat) (h:k < l.length):jN (l.take k)++fO (cc (l.getD k 0) 1000000)=jN (l.take (k+1)):=by
  rw [ea _ _ _ h,List.take_succ_eq_append_getElem h];simp only [jN,List.flatMap_append,List.flatMap_cons,List.flatMap_nil,List.append_nil]
theorem aS (l:List Int) (k:Nat) (h:k < l.length):PV.ups (((jN l).drop (k*4)).take 4)=PV.ups (fO (cc (l.getD k 0) 1000000)):=by
  rw [ea _ _ _ h];exact congrArg PV.ups (jb (fun x=> fO (cc x 1000000)) 4 (fun _=> rfl) l k h)
theorem iA (n:Int):n % 16=0∨n % 16=1∨n % 16=2∨n % 16=3∨(n % 16≠0∧n % 16≠1∧n % 16≠2∧n % 16≠3):=by omega
theorem jd (a:Int) (j:Nat) (hj:j≤60):a.fdiv (2 ^ min (Int.toNat (j:Int)) IntKind.i64.bits)=a / 2 ^ j:=by
  rw [Int.toNat_natCast,show IntKind.i64.bits=64 from rfl,Nat.min_eq_left ab,Int.fdiv_eq_ediv_of_nonneg]
  exact Int.pow_nonneg ag
theorem ln {ρ:aq→aq} {σ:St} {F:aq→Bool} {id:aq} {e:TypeId} {n m:Nat} {l r:List Int} (hid:σ.ob id= .obj (.row e 4 (jN l))) (hF:F id=true) (hm:n=m) (hl:l=r) (hn:m=r.length):Lv ρ σ F (.sl m (jN r)) (.ref id 0 n):=by
  subst hm;subst hl
  exact jI hid hF (by rw [bR,hn]) rfl
theorem gA (l:List Int) (h1:l.length≤4611686018427387904) (hr:Rng l):
    Spec Try.prog 20 (bq [.sl l.length (bG l)] []) (bc (.sl (l.take 20).length (jN (l.take 20))) []):=by
  refine Spec.ofN Try.func20 rfl Try.ntmps20 rfl ?_
  refine al fun K1 hK1=> ?_
  refine ai ?_
  first
    | refine ah (az _ dz) ?_
    | refine ah (az _ bV) ?_
    | refine ah (az _ iU) ?_
    | refine ah (az _ (rfl:_=AV.z)) ?_
  refine ak (hK1 _ ?_)
  clear hK1;try clear K1
  refine al fun K2 hK2=> ?_
  refine ai ?_
  first
    | refine ah (az _ dz) ?_
    | refine ah (az _ bV) ?_
    | refine ah (az _ iU) ?_
    | refine ah (az _ (rfl:_=AV.z)) ?_
  refine ak (hK2 _ ?_)
  clear hK2;try clear K2
  refine al fun K3 hK3=> ?_
  refine al fun K4 hK4=> ?_
  refine ai ?_
  refine ah (az _ aR) ?_
  refine ak (hK4 _ ?_)
  clear hK4;try clear K4
  refine aN ?_
  refine bz (Le.nilS 3 (60,0) 61 4 rfl rfl) ?_
  refine bn (α:=Nat) (fun k=> k≤l.length∧k≤20) 77 [(0,_)] [] (fun k=> [(3, .ref (60,0) 0 k),(4, .v (.int .i64 (k:Int)))]) (fun k=> [((60,0), .row 61 4 (jN (l.take k)))]) [] [] (fun k=> l.length - k) 0 ?_ (by
    refine Le.mkJ [] [] rfl ?_ ?_ trivial trivial ?_
    · exact ⟨(iS rfl),(aC rfl (by first | rfl | omega | (rw [← hsn];simp [fO,eW,ee,ff,eh,h,cA]) | (simp;done) | (simp;omega) | assumption)),(bd (by first | rfl | omega | (rw [← hsn];simp [fO,eW,ee,ff,eh,h,cA]) | (simp;done) | (simp;omega) | assumption)),trivial⟩
    · exact ⟨(bJ rfl rfl rfl (by first | rfl | omega | (rw [← hsn];simp [fO,eW,ee,ff,eh,h,cA]) | (simp;done) | (simp;omega) | assumption)),trivial⟩
    kernel_rfl) ?_
  · exact ⟨Nat.zero_le _,Nat.zero_le _⟩
  intro k hk
  refine al fun K5 hK5=> ?_
  refine al fun K6 hK6=> ?_
  refine ai ?_
  refine ah (am _ aR) ?_
  refine ah (am _ dz) ?_
  refine ah (bl _ aa rfl) ?_
  refine ah (aL (r:=decide ((k:Int) < (l.length:Int))) _ _ rfl rfl rfl) ?_
  refine ah (am _ cw) ?_
  refine fH (fun hg12=> ?_) (fun hg12=> ?_)
  · skip
    refine aI rfl rfl (am _ aR) ?_
    refine aI rfl rfl (aL (r:=decide ((k:Int) < 20)) _ _ rfl rfl rfl) ?_
    refine ah (bu _ _ _ rfl cw) ?_
    refine ak (hK6 _ ?_)
    clear hK6;try clear K6
    refine aY rfl (fun hc15=> ?_) (fun hc15=> ?_)
    · skip
      have hkx:k < l.length:=by omega
      have hk20:k < 20:=by omega
      have hxr:=hr.at k hkx
      have hv0:=eb (l.getD k 0) 1000000 ab
      have hv1:=dW (l.getD k 0) 1000000 ab
      have hsn:=jo l k hkx
      have har:=dk (l.getD k 0) 1000000 ab ab hxr.1 hxr.2
      generalize cc (l.getD k 0) 1000000=n at*
      refine aT (hK5 _ ?_)
      clear hK5;try clear K5
      refine al fun K7 hK7=> ?_
      refine aN ?_
      refine al fun K8 hK8=> ?_
      refine ai ?_
      refine ah (am _ dz) ?_
      refine ah (am _ aR) ?_
      first
        | refine ah (bB _ _ aa rfl rfl _ rfl ab (by first | assumption | decide | (simp only [aF,aV,bm,aF,aU,aV,bR];omega) | (simp;done) | (simp;omega) | (simp [bG,cA];omega)) (by first | exact Nat.mul_one _ | rfl | omega)) ?_
        | refine ah (bB _ _ aa rfl rfl (Int.toNat _) (Int.toNat_of_nonneg ab).symm ab (by first | assumption | decide | (simp only [aF,aV,bm,aF,aU,aV,bR];omega) | (simp;done) | (simp;omega) | (simp [bG,cA];omega)) (by first | exact Nat.mul_one _ | rfl | omega)) ?_
      refine ah (ei _ aa rfl (by first | rfl | exact an _ _ ab | exact ar _ _ ab | assumption | exact an _ _ ab) rfl) ?_
      refine ah (aX aa (by repeat' (first | exact aJ | refine aG ?_ ?_ | exact Lv.v | exact bd ab | exact Lv.sl | exact Lv.fp | exact Lv.nil | refine Lv.agg rfl ?_ | refine Lv.fn rfl ?_ rfl ?_ | exact ap | refine aj ?_ ?_ | exact Lv.z0)) (har) rfl rfl) ?_
      refine ah (az _ aR) ?_
      refine ak (hK8 _ ?_)
      clear hK8;try clear K8
      refine al fun K9 hK9=> ?_
      refine ai ?_
      refine ah (am _ aR) ?_
      first
        | refine ah (cx _ _ rfl rfl ab (IntWalk.i64_quo _ _ ab)) ?_
        | refine ah (cx _ _ rfl rfl ab rfl) ?_
      first
        | refine ah (ba _ _ rfl rfl ab (Int.tmod_eq_emod_of_nonneg ab)) ?_
        | refine ah (ba _ _ rfl rfl ab rfl) ?_
      first
        | refine ah (gg _ _ rfl rfl (bQ ab)) ?_
        | refine ah (gg _ _ rfl rfl rfl) ?_
      refine ah (am _ aR) ?_
      first
        | refine ah (cx _ _ rfl rfl ab (IntWalk.i64_quo _ _ ab)) ?_
        | refine ah (cx _ _ rfl rfl ab rfl) ?_
      first
        | refine ah (ba _ _ rfl rfl ab (Int.tmod_eq_emod_of_nonneg ab)) ?_
        | refine ah (ba _ _ rfl rfl ab rfl) ?_
      first
        | refine ah (gg _ _ rfl rfl (bQ ab)) ?_
        | refine ah (gg _ _ rfl rfl rfl) ?_
      refine ah (bE _ aa rfl (by exact (rfl:_=some [_,_,_,_]))) ?_
      refine ah (aP (6,0) aa rfl rfl) ?_
      refine ah (aM _ _ aa rfl rfl rfl rfl (Nat.le_of_ble_eq_true rfl) rfl) ?_
      refine ak (hK9 _ ?_)
      clear hK9;try clear K9
      refine al fun K10 hK10=> ?_
      refine al fun K11 hK11=> ?_
      rcases iA n with h | h | h | h | h
      · skip
        have b0:(n % 16==0)=true:=by simp;omega
        have b1:(n % 16==1)=false:=by simp;omega
        have b2:(n % 16==2)=false:=by simp;omega
        have b3:(n % 16==3)=false:=by simp;omega
        refine bz (σ':=bi 77 [(0,_),(3,_),(4,_),(5,_),(6,_)] [((60,0),_),((6,0),_)] [] []) (by
          refine Le.mkJ [] [] rfl ?_ ?_ trivial trivial ?_
          · exact ⟨(iS rfl),(iR rfl),(iV rfl),(iV rfl),(iP rfl),trivial⟩
          · exact ⟨(ay rfl rfl rfl),(ay rfl rfl rfl),trivial⟩
          kernel_rfl) ?_
        refine ai ?_
        refine ah (am _ aR) ?_
        first
          | refine ah (ba _ _ rfl rfl ab (Int.tmod_eq_emod_of_nonneg ab)) ?_
          | refine ah (ba _ _ rfl rfl ab rfl) ?_
        refine ah (bo (r:=true) _ _ rfl rfl b0) ?_
        refine ak (hK11 _ ?_)
        clear hK11;try clear K11
        refine fc rfl rfl ?_
        refine ai ?_
        first
          | refine ah (au _ aa rfl rfl rfl) ?_
          | refine ah (aw _ aa rfl rfl) ?_
        refine ah (aM _ _ aa rfl rfl rfl rfl (Nat.le_of_ble_eq_true rfl) rfl) ?_
        refine ak (hK10 _ ?_)
        clear hK10;try clear K10
        refine al fun K12 hK12=> ?_
        refine al fun K13 hK13=> ?_
        refine ai ?_
        refine ah (am _ aR) ?_
        first
          | refine ah (ba _ _ rfl rfl ab (Int.tmod_eq_emod_of_nonneg ab)) ?_
          | refine ah (ba _ _ rfl rfl ab rfl) ?_
        refine ah (bo (r:=false) _ _ rfl rfl b1) ?_
        refine ah (am _ cw) ?_
        refine aI rfl rfl (am _ aR) ?_
        first
          | refine aI rfl rfl (ba _ _ rfl rfl ab (Int.tmod_eq_emod_of_nonneg ab)) ?_
          | refine aI rfl rfl (ba _ _ rfl rfl ab rfl) ?_
        refine aI rfl rfl (bo (r:=false) _ _ rfl rfl b2) ?_
        refine ah (bu _ _ _ rfl cw) ?_
        refine ak (hK13 _ ?_)
        clear hK13;try clear K13
        refine cq rfl rfl ?_
        refine aT (hK12 _ ?_)
        clear hK12;try clear K12
        refine al fun K14 hK14=> ?_
        refine al fun K15 hK15=> ?_
        refine ai ?_
        refine ah (am _ aR) ?_
        first
          | refine ah (ba _ _ rfl rfl ab (Int.tmod_eq_emod_of_nonneg ab)) ?_
          | refine ah (ba _ _ rfl rfl ab rfl) ?_
        refine ah (bo (r:=false) _ _ rfl rfl b3) ?_
        refine ak (hK15 _ ?_)
        clear hK15;try clear K15
        refine cq rfl rfl ?_
        refine aT (hK14 _ ?_)
        clear hK14;try clear K14
        refine bz (Le.nil0 (6,0) 3 rfl rfl) ?_
        refine ai ?_
        refine ah (am _ bV) ?_
        first
          | refine ah (aE _ aa rfl rfl rfl rfl) ?_
          | refine ah (aD _ aa rfl rfl (by first | rfl | assumption | exact aS _ _ ab) rfl) ?_
          | refine ah (aA _ aa rfl (by first | rfl | assumption | exact aS _ _ ab) rfl) ?_
        refine ah (bO _ _ aa rfl ae (by first | (simp <;> rfl) | (simp;exact ⟨rfl,rfl⟩) | (simp;exact ⟨rfl,rfl,rfl⟩)) ag rfl) ?_
        refine ah (cT (75,0) _ _ aa rfl rfl (by rw [bR,List.length_take];omega) (.sl (m:=1) rfl) ab rfl rfl rfl) ?_
        refine ah (az _ bV) ?_
        refine ak (hK7 _ ?_)
        clear hK7;try clear K7
        refine bz (σ':=bi 77 [(0,_),(3,_),(4,_)] [((75,0),_)] [] []) (by
          refine Le.mkJ [] [] rfl ?_ ?_ trivial trivial ?_
          · exact ⟨(iS rfl),(iR rfl),(iV rfl),trivial⟩
          · exact ⟨(ay rfl rfl rfl),trivial⟩
          kernel_rfl) ?_
        refine ai ?_
        refine ah (am _ aR) ?_
        first
          | refine ah (aK _ _ rfl rfl (bQ ab)) ?_
          | refine ah (aK _ _ rfl rfl rfl) ?_
        refine ah (az _ aR) ?_
        refine ak ?_
        refine ⟨k+1,?_,?_,?_⟩
        · exact ⟨by omega,by omega⟩
        · skip
          refine Le.mkJ [((60,0),(75,0))] [] rfl ?_ ?_ trivial trivial ?_
          · exact ⟨(by repeat' (first | exact Lv.v | exact Lv.sl | exact Lv.fp | exact aC (id:=(60,0)) rfl rfl | exact aZ (id:=(60,0)) rfl | exact aC rfl rfl | exact aZ rfl | exact Lv.mp | exact Lv.nil | exact Lv.z | exact Lv.dead | refine Lv.agg rfl ?_ | refine Lv.fn rfl ?_ rfl ?_ | refine Lv.tup rfl ?_ | refine Lv.ifc ?_ | exact ap | refine aj ?_ ?_)),(aC rfl (by first | rfl | omega | (rw [← hsn];simp [fO,eW,ee,ff,eh,h,cA]) | (simp;done) | (simp;omega) | assumption)),(bd (by first | rfl | omega | (rw [← hsn];simp [fO,eW,ee,ff,eh,h,cA]) | (simp;done) | (simp;omega) | assumption)),trivial⟩
          · exact ⟨(bJ rfl rfl rfl (by first | rfl | omega | (rw [← hsn];simp [fO,eW,ee,ff,eh,h,cA]) | (simp;done) | (simp;omega) | assumption)),trivial⟩
          kernel_rfl
        omega
      · skip
        have b0:(n % 16==0)=false:=by simp;omega
        have b1:(n % 16==1)=true:=by simp;omega
        have b3:(n % 16==3)=false:=by simp;omega
        refine bz (σ':=bi 77 [(0,_),(3,_),(4,_),(5,_),(6,_)] [((60,0),_),((6,0),_)] [] []) (by
          refine Le.mkJ [] [] rfl ?_ ?_ trivial trivial ?_
          · exact ⟨(iS rfl),(iR rfl),(iV rfl),(iV rfl),(iP rfl),trivial⟩
          · exact ⟨(ay rfl rfl rfl),(ay rfl rfl rfl),trivial⟩
          kernel_rfl) ?_
        refine ai ?_
        refine ah (am _ aR) ?_
        first
          | refine ah (ba _ _ rfl rfl ab (Int.tmod_eq_emod_of_nonneg ab)) ?_
          | refine ah (ba _ _ rfl rfl ab rfl) ?_
        refine ah (bo (r:=false) _ _ rfl rfl b0) ?_
        refine ak (hK11 _ ?_)
        clear hK11;try clear K11
        refine cq rfl rfl ?_
        refine aT (hK10 _ ?_)
        clear hK10;try clear K10
        refine al fun K16 hK16=> ?_
        refine al fun K17 hK17=> ?_
        refine ai ?_
        refine ah (am _ aR) ?_
        first
          | refine ah (ba _ _ rfl rfl ab (Int.tmod_eq_emod_of_nonneg ab)) ?_
          | refine ah (ba _ _ rfl rfl ab rfl) ?_
        refine ah (bo (r:=true) _ _ rfl rfl b1) ?_
        refine ah (am _ cw) ?_
        refine bP rfl rfl ag ?_
        refine bP rfl rfl ag ?_
        refine bP rfl rfl ag ?_
        refine ah (bu _ _ _ rfl cw) ?_
        refine ak (hK17 _ ?_)
        clear hK17;try clear K17
        refine fc rfl rfl ?_
        refine al fun K18 hK18=> ?_
        refine ai ?_
        first
          | refine ah (au _ aa rfl rfl rfl) ?_
          | refine ah (aw _ aa rfl rfl) ?_
        refine ah (aM _ _ aa rfl rfl rfl rfl (Nat.le_of_ble_eq_true rfl) rfl) ?_
        refine ak (hK18 _ ?_)
        clear hK18;try clear K18
        refine al fun K19 hK19=> ?_
        refine ai ?_
        refine ah (az _ aR) ?_
        refine ak (hK19 _ ?_)
        clear hK19;try clear K19
        refine aN ?_
        refine bz (Le.nilB (6,0) 3 (61,0) 4 1 rfl rfl rfl) ?_
        refine bn (α:=Nat) (fun j=> (j:Int)≤n / 16 % 6) 77 [(0,_),(3,_),(4,_),(5,_),(6,_)] [((60,0),_)] (fun j=> [(7, .v (.int .i64 (j:Int)))]) (fun j=> [((6,0), .box 61 [.v (.int .i64 2), .v (.int .i64 (n / 16 % 7 - 1)), .v (.int .i64 (n / 112 % 9 - 4)), .ref (61,0) 0 j]),((61,0), .row 4 1 (cA (bits n j)))]) [] [] (fun j=> 6 - j) 0 ?_ (by
          refine Le.mkJ [] [] rfl ?_ ?_ trivial trivial ?_
          · exact ⟨(iS rfl),(iR rfl),(iV rfl),(iV rfl),(iP rfl),(bd (by first | rfl | omega | (simp;done) | (simp;omega) | assumption)),trivial⟩
          · exact ⟨(ay rfl rfl rfl),(eA rfl rfl rfl rfl (aj (bd (by first | rfl | omega | (simp;done) | (simp;omega) | assumption)) (aj (bd (by first | rfl | omega | (simp;done) | (simp;omega) | assumption)) (aj (bd (by first | rfl | omega | (simp;done) | (simp;omega) | assumption)) (aj (aC rfl (by first | rfl | omega | (simp;done) | (simp;omega) | assumption)) ap))))),(bJ rfl rfl rfl (by first | rfl | omega | (simp;done) | (simp;omega) | assumption)),trivial⟩
          kernel_rfl) ?_
        · omega
        intro j hj
        refine al fun K20 hK20=> ?_
        refine al fun K21 hK21=> ?_
        refine ai ?_
        refine ah (am _ aR) ?_
        refine ah (am _ aR) ?_
        first
          | refine ah (cx _ _ rfl rfl ab (IntWalk.i64_quo _ _ ab)) ?_
          | refine ah (cx _ _ rfl rfl ab rfl) ?_
        first
          | refine ah (ba _ _ rfl rfl ab (Int.tmod_eq_emod_of_nonneg ab)) ?_
          | refine ah (ba _ _ rfl rfl ab rfl) ?_
        first
          | refine ah (aL _ _ rfl rfl (by assumption)) ?_
          | refine ah (aL _ _ rfl rfl rfl) ?_
        refine ak (hK21 _ ?_)
        clear hK21;try clear K21
        refine aY rfl (fun hc49=> ?_) (fun hc49=> ?_)
        · skip
          refine aT (hK20 _ ?_)
          clear hK20;try clear K20
          refine al fun K22 hK22=> ?_
          refine aN ?_
          refine ai ?_
          first
            | refine ah (au _ aa rfl rfl rfl) ?_
            | refine ah (aw _ aa rfl rfl) ?_
          first
            | refine ah (aB _ aa rfl rfl dB) ?_
            | refine ah (aH _ aa rfl rfl (by first | rfl | exact an _ _ ab | exact ar _ _ ab | assumption | exact an _ _ ab) rfl) ?_
          refine ah (am _ aR) ?_
          first
            | refine ah (cx _ _ rfl rfl ab (IntWalk.i64_quo _ _ ab)) ?_
            | refine ah (cx _ _ rfl rfl ab rfl) ?_
          refine ah (am _ aR) ?_
          first
            | refine ah (dV _ Try.underlying3 Try.underlying78 rfl (bQ ab)) ?_
            | refine ah (dV _ Try.underlying3 Try.underlying78 rfl (lm ab)) ?_
            | refine ah (dV _ Try.underlying3 Try.underlying78 rfl rfl) ?_
          refine ah (jj _ _ rfl rfl ab (jd _ _ ab)) ?_
          refine ah (ba _ _ rfl rfl ab (Int.tmod_eq_emod_of_nonneg (Int.ediv_nonneg ab (Int.pow_nonneg ag)))) ?_
          first
            | refine ah (bo _ _ rfl rfl (by assumption)) ?_
            | refine ah (bo _ _ rfl rfl rfl) ?_
          refine ah (bO _ _ aa rfl ae (by first | (simp <;> rfl) | (simp;exact ⟨rfl,rfl⟩) | (simp;exact ⟨rfl,rfl,rfl⟩)) ag rfl) ?_
          refine ah (cT (62,0) _ _ aa rfl rfl (by simp [bU]) (.sl (m:=1) rfl) ab rfl (fT n j) rfl) ?_
          first
            | refine ah (au _ aa rfl rfl rfl) ?_
            | refine ah (aw _ aa rfl rfl) ?_
          refine ah (aM _ _ aa rfl rfl rfl rfl (Nat.le_of_ble_eq_true rfl) rfl) ?_
          refine ak (hK22 _ ?_)
          clear hK22;try clear K22
          refine bz (σ':=bi 77 [(0,_),(3,_),(4,_),(5,_),(6,_),(7,_)] [((60,0),_),((6,0),_),((62,0),_)] [] []) (by
            refine Le.mkJ [] [] rfl ?_ ?_ trivial trivial ?_
            · exact ⟨(iS rfl),(iR rfl),(iV rfl),(iV rfl),(iP rfl),(iV rfl),trivial⟩
            · exact ⟨(ay rfl rfl rfl),(ay rfl rfl rfl),(ay rfl rfl rfl),trivial⟩
            kernel_rfl) ?_
          refine ai ?_
          refine ah (am _ aR) ?_
          first
            | refine ah (aK _ _ rfl rfl (bQ ab)) ?_
            | refine ah (aK _ _ rfl rfl rfl) ?_
          refine ah (az _ aR) ?_
          refine ak ?_
          refine ⟨j+1,?_,?_,?_⟩
          · first | omega | trivial | exact ⟨by omega,by omega⟩
          · skip
            refine Le.mkJ [((61,0),(62,0))] [] rfl ?_ ?_ trivial trivial ?_
            · exact ⟨(by repeat' (first | exact Lv.v | exact Lv.sl | exact Lv.fp | exact aC (id:=(60,0)) rfl rfl | exact aZ (id:=(60,0)) rfl | exact aC (id:=(6,0)) rfl rfl | exact aZ (id:=(6,0)) rfl | exact aC (id:=(61,0)) rfl rfl | exact aZ (id:=(61,0)) rfl | exact aC rfl rfl | exact aZ rfl | exact Lv.mp | exact Lv.nil | exact Lv.z | exact Lv.dead | refine Lv.agg rfl ?_ | refine Lv.fn rfl ?_ rfl ?_ | refine Lv.tup rfl ?_ | refine Lv.ifc ?_ | exact ap | refine aj ?_ ?_)),(aC (id:=(60,0)) rfl rfl),(by repeat' (first | exact Lv.v | exact Lv.sl | exact Lv.fp | exact aC (id:=(60,0)) rfl rfl | exact aZ (id:=(60,0)) rfl | exact aC (id:=(6,0)) rfl rfl | exact aZ (id:=(6,0)) rfl | exact aC (id:=(61,0)) rfl rfl | exact aZ (id:=(61,0)) rfl | exact aC rfl rfl | exact aZ rfl | exact Lv.mp | exact Lv.nil | exact Lv.z | exact Lv.dead | refine Lv.agg rfl ?_ | refine Lv.fn rfl ?_ rfl ?_ | refine Lv.tup rfl ?_ | refine Lv.ifc ?_ | exact ap | refine aj ?_ ?_)),(by repeat' (first | exact Lv.v | exact Lv.sl | exact Lv.fp | exact aC (id:=(60,0)) rfl rfl | exact aZ (id:=(60,0)) rfl | exact aC (id:=(6,0)) rfl rfl | exact aZ (id:=(6,0)) rfl | exact aC (id:=(61,0)) rfl rfl | exact aZ (id:=(61,0)) rfl | exact aC rfl rfl | exact aZ rfl | exact Lv.mp | exact Lv.nil | exact Lv.z | exact Lv.dead | refine Lv.agg rfl ?_ | refine Lv.fn rfl ?_ rfl ?_ | refine Lv.tup rfl ?_ | refine Lv.ifc ?_ | exact ap | refine aj ?_ ?_)),(aZ (id:=(6,0)) rfl),(bd (by first | rfl | omega | (simp;done) | (simp;omega) | assumption)),trivial⟩
            · exact ⟨(bJ rfl rfl rfl rfl),(eA rfl rfl rfl rfl (aj (bd (by first | rfl | omega | (simp;done) | (simp;omega) | assumption)) (aj (bd (by first | rfl | omega | (simp;done) | (simp;omega) | assumption)) (aj (bd (by first | rfl | omega | (simp;done) | (simp;omega) | assumption)) (aj (aC rfl (by first | rfl | omega | (simp;done) | (simp;omega) | assumption)) ap))))),(bJ rfl rfl rfl (by first | rfl | omega | (simp;done) | (simp;omega) | assumption)),trivial⟩
            kernel_rfl
          omega
        have hjq:j=(n / 16 % 6).toNat:=by omega
        refine bv ?_
        refine id (hK16 _ ?_)
        clear hK16;try clear K16
        refine al fun K23 hK23=> ?_
        refine al fun K24 hK24=> ?_
        refine ai ?_
        refine ah (am _ aR) ?_
        first
          | refine ah (ba _ _ rfl rfl ab (Int.tmod_eq_emod_of_nonneg ab)) ?_
          | refine ah (ba _ _ rfl rfl ab rfl) ?_
        refine ah (bo (r:=false) _ _ rfl rfl b3) ?_
        refine ak (hK24 _ ?_)
        clear hK24;try clear K24
        refine cq rfl rfl ?_
        refine aT (hK23 _ ?_)
        clear hK23;try clear K23
        refine bz (Le.frzB (ys:=cA (bits n j)) (6,0) 3 rfl rfl rfl rfl (by exact List.take_of_length_le (by simp [bU])) (by simp [bU])) ?_
        refine ai ?_
        refine ah (am _ bV) ?_
        first
          | refine ah (aE _ aa rfl rfl rfl rfl) ?_
          | refine ah (aD _ aa rfl rfl (by first | rfl | assumption | exact aS _ _ ab) rfl) ?_
          | refine ah (aA _ aa rfl (by first | rfl | assumption | exact aS _ _ ab) rfl) ?_
        refine ah (bO _ _ aa rfl ae (by first | (simp <;> rfl) | (simp;exact ⟨rfl,rfl⟩) | (simp;exact ⟨rfl,rfl,rfl⟩)) ag rfl) ?_
        refine ah (cT (75,0) _ _ aa rfl rfl (by rw [bR,List.length_take];omega) (.sl (m:=1) rfl) ab rfl rfl rfl) ?_
        refine ah (az _ bV) ?_
        refine ak (hK7 _ ?_)
        clear hK7;try clear K7
        refine ai ?_
        refine ah (am _ aR) ?_
        first
          | refine ah (aK _ _ rfl rfl (bQ ab)) ?_
          | refine ah (aK _ _ rfl rfl rfl) ?_
        refine ah (az _ aR) ?_
        refine ak ?_
        refine ⟨k+1,?_,?_,?_⟩
        · exact ⟨by omega,by omega⟩
        · skip
          refine Le.mkJ [((60,0),(75,0))] [] rfl ?_ ?_ trivial trivial ?_
          · exact ⟨(by repeat' (first | exact Lv.v | exact Lv.sl | exact Lv.fp | exact aC (id:=(6,0)) rfl rfl | exact aZ (id:=(6,0)) rfl | exact aC (id:=(60,0)) rfl rfl | exact aZ (id:=(60,0)) rfl | exact aC rfl rfl | exact aZ rfl | exact Lv.mp | exact Lv.nil | exact Lv.z | exact Lv.dead | refine Lv.agg rfl ?_ | refine Lv.fn rfl ?_ rfl ?_ | refine Lv.tup rfl ?_ | refine Lv.ifc ?_ | exact ap | refine aj ?_ ?_)),(aC rfl (by first | rfl | omega | (rw [← hsn];simp [fO,eW,ee,ff,eh,h,← hjq,bU]) | (simp;done) | (simp;omega) | assumption)),(bd (by first | rfl | omega | (rw [← hsn];simp [fO,eW,ee,ff,eh,h,← hjq,bU]) | (simp;done) | (simp;omega) | assumption)),trivial⟩
          · exact ⟨(bJ rfl rfl rfl (by first | rfl | omega | (rw [← hsn];simp [fO,eW,ee,ff,eh,h,← hjq,bU]) | (simp;done) | (simp;omega) | assumption)),trivial⟩
          kernel_rfl
        omega
      · skip
        have b0:(n % 16==0)=false:=by simp;omega
        have b1:(n % 16==1)=false:=by simp;omega
        have b2:(n % 16==2)=true:=by simp;omega
        have b3:(n % 16==3)=false:=by simp;omega
        refine bz (σ':=bi 77 [(0,_),(3,_),(4,_),(5,_),(6,_)] [((60,0),_),((6,0),_)] [] []) (by
          refine Le.mkJ [] [] rfl ?_ ?_ trivial trivial ?_
          · exact ⟨(iS rfl),(iR rfl),(iV rfl),(iV rfl),(iP rfl),trivial⟩
          · exact ⟨(ay rfl rfl rfl),(ay rfl rfl rfl),trivial⟩
          kernel_rfl) ?_
        refine ai ?_
        refine ah (am _ aR) ?_
        first
          | refine ah (ba _ _ rfl rfl ab (Int.tmod_eq_emod_of_nonneg ab)) ?_
          | refine ah (ba _ _ rfl rfl ab rfl) ?_
        refine ah (bo (r:=false) _ _ rfl rfl b0) ?_
        refine ak (hK11 _ ?_)
        clear hK11;try clear K11
        refine cq rfl rfl ?_
        refine aT (hK10 _ ?_)
        clear hK10;try clear K10
        refine al fun K25 hK25=> ?_
        refine al fun K26 hK26=> ?_
        refine ai ?_
        refine ah (am _ aR) ?_
        first
          | refine ah (ba _ _ rfl rfl ab (Int.tmod_eq_emod_of_nonneg ab)) ?_
          | refine ah (ba _ _ rfl rfl ab rfl) ?_
        refine ah (bo (r:=false) _ _ rfl rfl b1) ?_
        refine ah (am _ cw) ?_
        refine aI rfl rfl (am _ aR) ?_
        first
          | refine aI rfl rfl (ba _ _ rfl rfl ab (Int.tmod_eq_emod_of_nonneg ab)) ?_
          | refine aI rfl rfl (ba _ _ rfl rfl ab rfl) ?_
        refine aI rfl rfl (bo (r:=true) _ _ rfl rfl b2) ?_
        refine ah (bu _ _ _ rfl cw) ?_
        refine ak (hK26 _ ?_)
        clear hK26;try clear K26
        refine fc rfl rfl ?_
        refine al fun K27 hK27=> ?_
        refine ai ?_
        first
          | refine ah (au _ aa rfl rfl rfl) ?_
          | refine ah (aw _ aa rfl rfl) ?_
        refine ah (aM _ _ aa rfl rfl rfl rfl (Nat.le_of_ble_eq_true rfl) rfl) ?_
        refine ak (hK27 _ ?_)
        clear hK27;try clear K27
        refine al fun K28 hK28=> ?_
        refine ai ?_
        refine ah (az _ aR) ?_
        refine ak (hK28 _ ?_)
        clear hK28;try clear K28
        refine aN ?_
        refine bz (Le.nilB (6,0) 3 (61,0) 4 1 rfl rfl rfl) ?_
        refine bn (α:=Nat) (fun j=> (j:Int)≤n / 16 % 6) 77 [(0,_),(3,_),(4,_),(5,_),(6,_)] [((60,0),_)] (fun j=> [(7, .v (.int .i64 (j:Int)))]) (fun j=> [((6,0), .box 61 [.v (.int .i64 2), .v (.int .i64 (n / 16 % 7 - 1)), .v (.int .i64 (n / 112 % 9 - 4)), .ref (61,0) 0 j]),((61,0), .row 4 1 (cA (bits n j)))]) [] [] (fun j=> 6 - j) 0 ?_ (by
          refine Le.mkJ [] [] rfl ?_ ?_ trivial trivial ?_
          · exact ⟨(iS rfl),(iR rfl),(iV rfl),(iV rfl),(iP rfl),(bd (by first | rfl | omega | (simp;done) | (simp;omega) | assumption)),trivial⟩
          · exact ⟨(ay rfl rfl rfl),(eA rfl rfl rfl rfl (aj (bd (by first | rfl | omega | (simp;done) | (simp;omega) | assumption)) (aj (bd (by first | rfl | omega | (simp;done) | (simp;omega) | assumption)) (aj (bd (by first | rfl | omega | (simp;done) | (simp;omega) | assumption)) (aj (aC rfl (by first | rfl | omega | (simp;done) | (simp;omega) | assumption)) ap))))),(bJ rfl rfl rfl (by first | rfl | omega | (simp;done) | (simp;omega) | assumption)),trivial⟩
          kernel_rfl) ?_
        · omega
        intro j hj
        refine al fun K29 hK29=> ?_
        refine al fun K30 hK30=> ?_
        refine ai ?_
        refine ah (am _ aR) ?_
        refine ah (am _ aR) ?_
        first
          | refine ah (cx _ _ rfl rfl ab (IntWalk.i64_quo _ _ ab)) ?_
          | refine ah (cx _ _ rfl rfl ab rfl) ?_
        first
          | refine ah (ba _ _ rfl rfl ab (Int.tmod_eq_emod_of_nonneg ab)) ?_
          | refine ah (ba _ _ rfl rfl ab rfl) ?_
        first
          | refine ah (aL _ _ rfl rfl (by assumption)) ?_
          | refine ah (aL _ _ rfl rfl rfl) ?_
        refine ak (hK30 _ ?_)
        clear hK30;try clear K30
        refine aY rfl (fun hc49=> ?_) (fun hc49=> ?_)
        · skip
          refine aT (hK29 _ ?_)
          clear hK29;try clear K29
          refine al fun K31 hK31=> ?_
          refine aN ?_
          refine ai ?_
          first
            | refine ah (au _ aa rfl rfl rfl) ?_
            | refine ah (aw _ aa rfl rfl) ?_
          first
            | refine ah (aB _ aa rfl rfl dB) ?_
            | refine ah (aH _ aa rfl rfl (by first | rfl | exact an _ _ ab | exact ar _ _ ab | assumption | exact an _ _ ab) rfl) ?_
          refine ah (am _ aR) ?_
          first
            | refine ah (cx _ _ rfl rfl ab (IntWalk.i64_quo _ _ ab)) ?_
            | refine ah (cx _ _ rfl rfl ab rfl) ?_
          refine ah (am _ aR) ?_
          first
            | refine ah (dV _ Try.underlying3 Try.underlying78 rfl (bQ ab)) ?_
            | refine ah (dV _ Try.underlying3 Try.underlying78 rfl (lm ab)) ?_
            | refine ah (dV _ Try.underlying3 Try.underlying78 rfl rfl) ?_
          refine ah (jj _ _ rfl rfl ab (jd _ _ ab)) ?_
          refine ah (ba _ _ rfl rfl ab (Int.tmod_eq_emod_of_nonneg (Int.ediv_nonneg ab (Int.pow_nonneg ag)))) ?_
          first
            | refine ah (bo _ _ rfl rfl (by assumption)) ?_
            | refine ah (bo _ _ rfl rfl rfl) ?_
          refine ah (bO _ _ aa rfl ae (by first | (simp <;> rfl) | (simp;exact ⟨rfl,rfl⟩) | (simp;exact ⟨rfl,rfl,rfl⟩)) ag rfl) ?_
          refine ah (cT (62,0) _ _ aa rfl rfl (by simp [bU]) (.sl (m:=1) rfl) ab rfl (fT n j) rfl) ?_
          first
            | refine ah (au _ aa rfl rfl rfl) ?_
            | refine ah (aw _ aa rfl rfl) ?_
          refine ah (aM _ _ aa rfl rfl rfl rfl (Nat.le_of_ble_eq_true rfl) rfl) ?_
          refine ak (hK31 _ ?_)
          clear hK31;try clear K31
          refine bz (σ':=bi 77 [(0,_),(3,_),(4,_),(5,_),(6,_),(7,_)] [((60,0),_),((6,0),_),((62,0),_)] [] []) (by
            refine Le.mkJ [] [] rfl ?_ ?_ trivial trivial ?_
            · exact ⟨(iS rfl),(iR rfl),(iV rfl),(iV rfl),(iP rfl),(iV rfl),trivial⟩
            · exact ⟨(ay rfl rfl rfl),(ay rfl rfl rfl),(ay rfl rfl rfl),trivial⟩
            kernel_rfl) ?_
          refine ai ?_
          refine ah (am _ aR) ?_
          first
            | refine ah (aK _ _ rfl rfl (bQ ab)) ?_
            | refine ah (aK _ _ rfl rfl rfl) ?_
          refine ah (az _ aR) ?_
          refine ak ?_
          refine ⟨j+1,?_,?_,?_⟩
          · first | omega | trivial | exact ⟨by omega,by omega⟩
          · skip
            refine Le.mkJ [((61,0),(62,0))] [] rfl ?_ ?_ trivial trivial ?_
            · exact ⟨(by repeat' (first | exact Lv.v | exact Lv.sl | exact Lv.fp | exact aC (id:=(60,0)) rfl rfl | exact aZ (id:=(60,0)) rfl | exact aC (id:=(6,0)) rfl rfl | exact aZ (id:=(6,0)) rfl | exact aC (id:=(61,0)) rfl rfl | exact aZ (id:=(61,0)) rfl | exact aC rfl rfl | exact aZ rfl | exact Lv.mp | exact Lv.nil | exact Lv.z | exact Lv.dead | refine Lv.agg rfl ?_ | refine Lv.fn rfl ?_ rfl ?_ | refine Lv.tup rfl ?_ | refine Lv.ifc ?_ | exact ap | refine aj ?_ ?_)),(aC (id:=(60,0)) rfl rfl),(by repeat' (first | exact Lv.v | exact Lv.sl | exact Lv.fp | exact aC (id:=(60,0)) rfl rfl | exact aZ (id:=(60,0)) rfl | exact aC (id:=(6,0)) rfl rfl | exact aZ (id:=(6,0)) rfl | exact aC (id:=(61,0)) rfl rfl | exact aZ (id:=(61,0)) rfl | exact aC rfl rfl | exact aZ rfl | exact Lv.mp | exact Lv.nil | exact Lv.z | exact Lv.dead | refine Lv.agg rfl ?_ | refine Lv.fn rfl ?_ rfl ?_ | refine Lv.tup rfl ?_ | refine Lv.ifc ?_ | exact ap | refine aj ?_ ?_)),(by repeat' (first | exact Lv.v | exact Lv.sl | exact Lv.fp | exact aC (id:=(60,0)) rfl rfl | exact aZ (id:=(60,0)) rfl | exact aC (id:=(6,0)) rfl rfl | exact aZ (id:=(6,0)) rfl | exact aC (id:=(61,0)) rfl rfl | exact aZ (id:=(61,0)) rfl | exact aC rfl rfl | exact aZ rfl | exact Lv.mp | exact Lv.nil | exact Lv.z | exact Lv.dead | refine Lv.agg rfl ?_ | refine Lv.fn rfl ?_ rfl ?_ | refine Lv.tup rfl ?_ | refine Lv.ifc ?_ | exact ap | refine aj ?_ ?_)),(aZ (id:=(6,0)) rfl),(bd (by first | rfl | omega | (simp;done) | (simp;omega) | assumption)),trivial⟩
            · exact ⟨(bJ rfl rfl rfl rfl),(eA rfl rfl rfl rfl (aj (bd (by first | rfl | omega | (simp;done) | (simp;omega) | assumption)) (aj (bd (by first | rfl | omega | (simp;done) | (simp;omega) | assumption)) (aj (bd (by first | rfl | omega | (simp;done) | (simp;omega) | assumption)) (aj (aC rfl (by first | rfl | omega | (simp;done) | (simp;omega) | assumption)) ap))))),(bJ rfl rfl rfl (by first | rfl | omega | (simp;done) | (simp;omega) | assumption)),trivial⟩
            kernel_rfl
          omega
        have hjq:j=(n / 16 % 6).toNat:=by omega
        refine bv ?_
        refine id (hK25 _ ?_)
        clear hK25;try clear K25
        refine al fun K32 hK32=> ?_
        refine al fun K33 hK33=> ?_
        refine ai ?_
        refine ah (am _ aR) ?_
        first
          | refine ah (ba _ _ rfl rfl ab (Int.tmod_eq_emod_of_nonneg ab)) ?_
          | refine ah (ba _ _ rfl rfl ab rfl) ?_
        refine ah (bo (r:=false) _ _ rfl rfl b3) ?_
        refine ak (hK33 _ ?_)
        clear hK33;try clear K33
        refine cq rfl rfl ?_
        refine aT (hK32 _ ?_)
        clear hK32;try clear K32
        refine bz (Le.frzB (ys:=cA (bits n j)) (6,0) 3 rfl rfl rfl rfl (by exact List.take_of_length_le (by simp [bU])) (by simp [bU])) ?_
        refine ai ?_
        refine ah (am _ bV) ?_
        first
          | refine ah (aE _ aa rfl rfl rfl rfl) ?_
          | refine ah (aD _ aa rfl rfl (by first | rfl | assumption | exact aS _ _ ab) rfl) ?_
          | refine ah (aA _ aa rfl (by first | rfl | assumption | exact aS _ _ ab) rfl) ?_
        refine ah (bO _ _ aa rfl ae (by first | (simp <;> rfl) | (simp;exact ⟨rfl,rfl⟩) | (simp;exact ⟨rfl,rfl,rfl⟩)) ag rfl) ?_
        refine ah (cT (75,0) _ _ aa rfl rfl (by rw [bR,List.length_take];omega) (.sl (m:=1) rfl) ab rfl rfl rfl) ?_
        refine ah (az _ bV) ?_
        refine ak (hK7 _ ?_)
        clear hK7;try clear K7
        refine ai ?_
        refine ah (am _ aR) ?_
        first
          | refine ah (aK _ _ rfl rfl (bQ ab)) ?_
          | refine ah (aK _ _ rfl rfl rfl) ?_
        refine ah (az _ aR) ?_
        refine ak ?_
        refine ⟨k+1,?_,?_,?_⟩
        · exact ⟨by omega,by omega⟩
        · skip
          refine Le.mkJ [((60,0),(75,0))] [] rfl ?_ ?_ trivial trivial ?_
          · exact ⟨(by repeat' (first | exact Lv.v | exact Lv.sl | exact Lv.fp | exact aC (id:=(6,0)) rfl rfl | exact aZ (id:=(6,0)) rfl | exact aC (id:=(60,0)) rfl rfl | exact aZ (id:=(60,0)) rfl | exact aC rfl rfl | exact aZ rfl | exact Lv.mp | exact Lv.nil | exact Lv.z | exact Lv.dead | refine Lv.agg rfl ?_ | refine Lv.fn rfl ?_ rfl ?_ | refine Lv.tup rfl ?_ | refine Lv.ifc ?_ | exact ap | refine aj ?_ ?_)),(aC rfl (by first | rfl | omega | (rw [← hsn];simp [fO,eW,ee,ff,eh,h,← hjq,bU]) | (simp;done) | (simp;omega) | assumption)),(bd (by first | rfl | omega | (rw [← hsn];simp [fO,eW,ee,ff,eh,h,← hjq,bU]) | (simp;done) | (simp;omega) | assumption)),trivial⟩
          · exact ⟨(bJ rfl rfl rfl (by first | rfl | omega | (rw [← hsn];simp [fO,eW,ee,ff,eh,h,← hjq,bU]) | (simp;done) | (simp;omega) | assumption)),trivial⟩
          kernel_rfl
        omega
      · skip
        have b0:(n % 16==0)=false:=by simp;omega
        have b1:(n % 16==1)=false:=by simp;omega
        have b2:(n % 16==2)=false:=by simp;omega
        have b3:(n % 16==3)=true:=by simp;omega
        refine bz (σ':=bi 77 [(0,_),(3,_),(4,_),(5,_),(6,_)] [((60,0),_),((6,0),_)] [] []) (by
          refine Le.mkJ [] [] rfl ?_ ?_ trivial trivial ?_
          · exact ⟨(iS rfl),(iR rfl),(iV rfl),(iV rfl),(iP rfl),trivial⟩
          · exact ⟨(ay rfl rfl rfl),(ay rfl rfl rfl),trivial⟩
          kernel_rfl) ?_
        refine ai ?_
        refine ah (am _ aR) ?_
        first
          | refine ah (ba _ _ rfl rfl ab (Int.tmod_eq_emod_of_nonneg ab)) ?_
          | refine ah (ba _ _ rfl rfl ab rfl) ?_
        refine ah (bo (r:=false) _ _ rfl rfl b0) ?_
        refine ak (hK11 _ ?_)
        clear hK11;try clear K11
        refine cq rfl rfl ?_
        refine aT (hK10 _ ?_)
        clear hK10;try clear K10
        refine al fun K34 hK34=> ?_
        refine al fun K35 hK35=> ?_
        refine ai ?_
        refine ah (am _ aR) ?_
        first
          | refine ah (ba _ _ rfl rfl ab (Int.tmod_eq_emod_of_nonneg ab)) ?_
          | refine ah (ba _ _ rfl rfl ab rfl) ?_
        refine ah (bo (r:=false) _ _ rfl rfl b1) ?_
        refine ah (am _ cw) ?_
        refine aI rfl rfl (am _ aR) ?_
        first
          | refine aI rfl rfl (ba _ _ rfl rfl ab (Int.tmod_eq_emod_of_nonneg ab)) ?_
          | refine aI rfl rfl (ba _ _ rfl rfl ab rfl) ?_
        refine aI rfl rfl (bo (r:=false) _ _ rfl rfl b2) ?_
        refine ah (bu _ _ _ rfl cw) ?_
        refine ak (hK35 _ ?_)
        clear hK35;try clear K35
        refine cq rfl rfl ?_
        refine aT (hK34 _ ?_)
        clear hK34;try clear K34
        refine al fun K36 hK36=> ?_
        refine al fun K37 hK37=> ?_
        refine ai ?_
        refine ah (am _ aR) ?_
        first
          | refine ah (ba _ _ rfl rfl ab (Int.tmod_eq_emod_of_nonneg ab)) ?_
          | refine ah (ba _ _ rfl rfl ab rfl) ?_
        refine ah (bo (r:=true) _ _ rfl rfl b3) ?_
        refine ak (hK37 _ ?_)
        clear hK37;try clear K37
        refine fc rfl rfl ?_
        refine al fun K38 hK38=> ?_
        refine ai ?_
        first
          | refine ah (au _ aa rfl rfl rfl) ?_
          | refine ah (aw _ aa rfl rfl) ?_
        refine ah (aM _ _ aa rfl rfl rfl rfl (Nat.le_of_ble_eq_true rfl) rfl) ?_
        refine ak (hK38 _ ?_)
        clear hK38;try clear K38
        refine bz (σ':=bi 77 [(0,_),(3,_),(4,_),(5,_),(6,_)] [((60,0),_),((6,0),_)] [] []) (by
          refine Le.mkJ [] [] rfl ?_ ?_ trivial trivial ?_
          · exact ⟨(iS rfl),(iR rfl),(iV rfl),(iV rfl),(iP rfl),trivial⟩
          · exact ⟨(ay rfl rfl rfl),(ay rfl rfl rfl),trivial⟩
          kernel_rfl) ?_
        refine ai ?_
        refine ah (am _ aR) ?_
        first
          | refine ah (cx _ _ rfl rfl ab (IntWalk.i64_quo _ _ ab)) ?_
          | refine ah (cx _ _ rfl rfl ab rfl) ?_
        first
          | refine ah (ba _ _ rfl rfl ab (Int.tmod_eq_emod_of_nonneg ab)) ?_
          | refine ah (ba _ _ rfl rfl ab rfl) ?_
        first
          | refine ah (au _ aa rfl rfl rfl) ?_
          | refine ah (aw _ aa rfl rfl) ?_
        refine ah (aM _ _ aa rfl rfl rfl rfl (Nat.le_of_ble_eq_true rfl) rfl) ?_
        refine ak (hK36 _ ?_)
        clear hK36;try clear K36
        refine bz (Le.nil0 (6,0) 3 rfl rfl) ?_
        refine ai ?_
        refine ah (am _ bV) ?_
        first
          | refine ah (aE _ aa rfl rfl rfl rfl) ?_
          | refine ah (aD _ aa rfl rfl (by first | rfl | assumption | exact aS _ _ ab) rfl) ?_
          | refine ah (aA _ aa rfl (by first | rfl | assumption | exact aS _ _ ab) rfl) ?_
        refine ah (bO _ _ aa rfl ae (by first | (simp <;> rfl) | (simp;exact ⟨rfl,rfl⟩) | (simp;exact ⟨rfl,rfl,rfl⟩)) ag rfl) ?_
        refine ah (cT (75,0) _ _ aa rfl rfl (by rw [bR,List.length_take];omega) (.sl (m:=1) rfl) ab rfl rfl rfl) ?_
        refine ah (az _ bV) ?_
        refine ak (hK7 _ ?_)
        clear hK7;try clear K7
        refine ai ?_
        refine ah (am _ aR) ?_
        first
          | refine ah (aK _ _ rfl rfl (bQ ab)) ?_
          | refine ah (aK _ _ rfl rfl rfl) ?_
        refine ah (az _ aR) ?_
        refine ak ?_
        refine ⟨k+1,?_,?_,?_⟩
        · exact ⟨by omega,by omega⟩
        · skip
          refine Le.mkJ [((60,0),(75,0))] [] rfl ?_ ?_ trivial trivial ?_
          · exact ⟨(by repeat' (first | exact Lv.v | exact Lv.sl | exact Lv.fp | exact aC (id:=(6,0)) rfl rfl | exact aZ (id:=(6,0)) rfl | exact aC (id:=(60,0)) rfl rfl | exact aZ (id:=(60,0)) rfl | exact aC rfl rfl | exact aZ rfl | exact Lv.mp | exact Lv.nil | exact Lv.z | exact Lv.dead | refine Lv.agg rfl ?_ | refine Lv.fn rfl ?_ rfl ?_ | refine Lv.tup rfl ?_ | refine Lv.ifc ?_ | exact ap | refine aj ?_ ?_)),(aC rfl (by first | rfl | omega | (rw [← hsn];simp [fO,eW,ee,ff,eh,h,cA]) | (simp;done) | (simp;omega) | assumption)),(bd (by first | rfl | omega | (rw [← hsn];simp [fO,eW,ee,ff,eh,h,cA]) | (simp;done) | (simp;omega) | assumption)),trivial⟩
          · exact ⟨(bJ rfl rfl rfl (by first | rfl | omega | (rw [← hsn];simp [fO,eW,ee,ff,eh,h,cA]) | (simp;done) | (simp;omega) | assumption)),trivial⟩
          kernel_rfl
        omega
      have b0:(n % 16==0)=false:=by simp;omega
      have b1:(n % 16==1)=false:=by simp;omega
      have b2:(n % 16==2)=false:=by simp;omega
      have b3:(n % 16==3)=false:=by simp;omega
      refine bz (σ':=bi 77 [(0,_),(3,_),(4,_),(5,_),(6,_)] [((60,0),_),((6,0),_)] [] []) (by
        refine Le.mkJ [] [] rfl ?_ ?_ trivial trivial ?_
        · exact ⟨(iS rfl),(iR rfl),(iV rfl),(iV rfl),(iP rfl),trivial⟩
        · exact ⟨(ay rfl rfl rfl),(ay rfl rfl rfl),trivial⟩
        kernel_rfl) ?_
      refine ai ?_
      refine ah (am _ aR) ?_
      first
        | refine ah (ba _ _ rfl rfl ab (Int.tmod_eq_emod_of_nonneg ab)) ?_
        | refine ah (ba _ _ rfl rfl ab rfl) ?_
      refine ah (bo (r:=false) _ _ rfl rfl b0) ?_
      refine ak (hK11 _ ?_)
      clear hK11;try clear K11
      refine cq rfl rfl ?_
      refine aT (hK10 _ ?_)
      clear hK10;try clear K10
      refine al fun K39 hK39=> ?_
      refine al fun K40 hK40=> ?_
      refine ai ?_
      refine ah (am _ aR) ?_
      first
        | refine ah (ba _ _ rfl rfl ab (Int.tmod_eq_emod_of_nonneg ab)) ?_
        | refine ah (ba _ _ rfl rfl ab rfl) ?_
      refine ah (bo (r:=false) _ _ rfl rfl b1) ?_
      refine ah (am _ cw) ?_
      refine aI rfl rfl (am _ aR) ?_
      first
        | refine aI rfl rfl (ba _ _ rfl rfl ab (Int.tmod_eq_emod_of_nonneg ab)) ?_
        | refine aI rfl rfl (ba _ _ rfl rfl ab rfl) ?_
      refine aI rfl rfl (bo (r:=false) _ _ rfl rfl b2) ?_
      refine ah (bu _ _ _ rfl cw) ?_
      refine ak (hK40 _ ?_)
      clear hK40;try clear K40
      refine cq rfl rfl ?_
      refine aT (hK39 _ ?_)
      clear hK39;try clear K39
      refine al fun K41 hK41=> ?_
      refine al fun K42 hK42=> ?_
      refine ai ?_
      refine ah (am _ aR) ?_
      first
        | refine ah (ba _ _ rfl rfl ab (Int.tmod_eq_emod_of_nonneg ab)) ?_
        | refine ah (ba _ _ rfl rfl ab rfl) ?_
      refine ah (bo (r:=false) _ _ rfl rfl b3) ?_
      refine ak (hK42 _ ?_)
      clear hK42;try clear K42
      refine cq rfl rfl ?_
      refine aT (hK41 _ ?_)
      clear hK41;try clear K41
      refine bz (Le.nil0 (6,0) 3 rfl rfl) ?_
      refine ai ?_
      refine ah (am _ bV) ?_
      first
        | refine ah (aE _ aa rfl rfl rfl rfl) ?_
        | refine ah (aD _ aa rfl rfl (by first | rfl | assumption | exact aS _ _ ab) rfl) ?_
        | refine ah (aA _ aa rfl (by first | rfl | assumption | exact aS _ _ ab) rfl) ?_
      refine ah (bO _ _ aa rfl ae (by first | (simp <;> rfl) | (simp;exact ⟨rfl,rfl⟩) | (simp;exact ⟨rfl,rfl,rfl⟩)) ag rfl) ?_
      refine ah (cT (75,0) _ _ aa rfl rfl (by rw [bR,List.length_take];omega) (.sl (m:=1) rfl) ab rfl rfl rfl) ?_
      refine ah (az _ bV) ?_
      refine ak (hK7 _ ?_)
      clear hK7;try clear K7
      refine bz (σ':=bi 77 [(0,_),(3,_),(4,_)] [((75,0),_)] [] []) (by
        refine Le.mkJ [] [] rfl ?_ ?_ trivial trivial ?_
        · exact ⟨(iS rfl),(iR rfl),(iV rfl),trivial⟩
        · exact ⟨(ay rfl rfl rfl),trivial⟩
        kernel_rfl) ?_
      refine ai ?_
      refine ah (am _ aR) ?_
      first
        | refine ah (aK _ _ rfl rfl (bQ ab)) ?_
        | refine ah (aK _ _ rfl rfl rfl) ?_
      refine ah (az _ aR) ?_
      refine ak ?_
      refine ⟨k+1,?_,?_,?_⟩
      · exact ⟨by omega,by omega⟩
      · skip
        refine Le.mkJ [((60,0),(75,0))] [] rfl ?_ ?_ trivial trivial ?_
        · exact ⟨(by repeat' (first | exact Lv.v | exact Lv.sl | exact Lv.fp | exact aC (id:=(60,0)) rfl rfl | exact aZ (id:=(60,0)) rfl | exact aC rfl rfl | exact aZ rfl | exact Lv.mp | exact Lv.nil | exact Lv.z | exact Lv.dead | refine Lv.agg rfl ?_ | refine Lv.fn rfl ?_ rfl ?_ | refine Lv.tup rfl ?_ | refine Lv.ifc ?_ | exact ap | refine aj ?_ ?_)),(aC rfl (by first | rfl | omega | (rw [← hsn];simp [fO,eW,ee,ff,eh,h,cA]) | (simp;done) | (simp;omega) | assumption)),(bd (by first | rfl | omega | (rw [← hsn];simp [fO,eW,ee,ff,eh,h,cA]) | (simp;done) | (simp;omega) | assumption)),trivial⟩
        · exact ⟨(bJ rfl rfl rfl (by first | rfl | omega | (rw [← hsn];simp [fO,eW,ee,ff,eh,h,cA]) | (simp;done) | (simp;omega) | assumption)),trivial⟩
        kernel_rfl
      omega
    refine bv ?_
    refine id (hK3 _ ?_)
    clear hK3;try clear K3
    refine al fun K43 hK43=> ?_
    refine ai ?_
    refine ah (am _ bV) ?_
    refine ah (az _ bV) ?_
    refine ak (hK43 _ ?_)
    clear hK43;try clear K43
    refine bp ?_
    exact bS (.inr rfl) rfl (.tmp bV) (Le.out [] [(60,0)] (ln rfl rfl (by rw [List.length_take];omega) (by first | exact List.take_eq_take_iff.2 ab | exact List.take_eq_take.2 ab) rfl) rfl rfl rfl ⟨rfl,trivial⟩ trivial)
  refine bP rfl rfl ag ?_
  refine bP rfl rfl ag ?_
  refine ah (bu _ _ _ rfl cw) ?_
  refine ak (hK6 _ ?_)
  clear hK6;try clear K6
  refine cq rfl rfl ?_
  refine bv ?_
  refine id (hK3 _ ?_)
  clear hK3;try clear K3
  refine al fun K44 hK44=> ?_
  refine ai ?_
  refine ah (am _ bV) ?_
  refine ah (az _ bV) ?_
  refine ak (hK44 _ ?_)
  clear hK44;try clear K44
  refine bp ?_
  exact bS (.inr rfl) rfl (.tmp bV) (Le.out [] [(60,0)] (ln rfl rfl (by rw [List.length_take];omega) (by first | exact List.take_eq_take_iff.2 ab | exact List.take_eq_take.2 ab) rfl) rfl rfl rfl ⟨rfl,trivial⟩ trivial)

def stp (d:Dk) (n:Int):Dk:=if eW n=1 then d.sync else if eW n=2 then d.crash (eh n) else if eW n=3 then d.resize (ee n).toNat else d.write (ee n) (ff n)
def run (k:Nat) (L:List Int):Dk:=L.foldl (fun d x=> stp d (cc x 1000000)) ⟨List.replicate k 0,[]⟩
theorem gI (k:Nat) (L:List Int) (i:Nat) (h:i < L.length):run k (L.take (i+1))=stp (run k (L.take i)) (cc (L.getD i 0) 1000000):=by
  rw [ea _ _ _ h,List.take_succ_eq_append_getElem h];simp only [run,List.foldl_append,List.foldl_cons,List.foldl_nil]
theorem hQ (n:Int) (h:eW n=3):0≤ee n∧ee n≤16:=by
  rcases iA n with h' | h' | h' | h' | h'
  all_goals simp [eW,h'] at h
  unfold ee
  rw [if_pos h']
  omega
theorem ir (n:Int):(eh n).length≤5:=by
  unfold eh
  split
  · rw [bU];omega
  simp
theorem DkG.sync {d:Dk} (h:DkG d):DkG d.sync:=⟨by show (dZ _ _).length≤16;rw [bF];exact h.n,by simp [Dk.sync],fun w hw=> by simp [Dk.sync] at hw⟩
theorem DkG.crash {d:Dk} (h:DkG d) (b:List Bool):DkG (d.crash b):=⟨by show (dZ _ _).length≤16;rw [bF];exact h.n,by simp [Dk.crash],fun w hw=> by simp [Dk.crash] at hw⟩
theorem DkG.resize (d:Dk) (n:Nat) (hn:n≤16):DkG (d.resize n):=⟨by simp [Dk.resize];omega,by simp [Dk.resize],fun w hw=> by simp [Dk.resize] at hw⟩
theorem DkG.write {d:Dk} (h:DkG d) (c v:Int):DkG (d.write c v):=by
  unfold Dk.write
  have hn:=h.n
  have hm:=h.m
  split
  · exact h
  rename_i hc
  have hp: ∀ w∈d.pend++[(c,v)],0≤w.1∧w.1 < (d.cells.length:Int):=fun w hw=> by
    rcases List.mem_append.1 hw with hw | hw
    · exact h.ok w hw
    simp at hw;subst hw;exact ⟨by simp only;omega,by simp only;omega⟩
  split
  · exact ⟨by simp only;rw [bF];exact hn,by simp;omega,fun w hw=> by simp only [bF];exact hp w (List.mem_of_mem_drop hw)⟩
  exact ⟨hn,by simp;omega,hp⟩
theorem DkG.stp {d:Dk} (h:DkG d) (n:Int):DkG (stp d n):=by
  unfold Ytmjnackchaahbaa.stp
  split
  · exact h.sync
  split
  · exact h.crash _
  split
  · rename_i h3
    have:=hQ n h3
    exact DkG.resize _ _ ab
  exact h.write _ _
theorem DkG.run (k:Nat) (hk:k≤16) (L:List Int):DkG (run k L):=by
  have key: ∀ (L:List Int) d,DkG d→DkG (L.foldl (fun d x=> Ytmjnackchaahbaa.stp d (cc x 1000000)) d):=by
    intro L
    induction L with
    | nil=> exact fun s h=> h
    | cons x L ih=> exact fun s h=> ih _ (h.stp _)
  exact key L _ ⟨by simpa using hk,by simp,fun w hw=> by simp at hw⟩
theorem jO (d:Dk) (h1:d.cells.length≤1000000) (h2:d.pend.length≤1000000) (ho:el d) (c:Int) (hc:0≤c∧c≤1000000):
    Spec Try.prog 11 (bq [cm d, .v (.int .i64 c)] []) (bc (cm (d.resize c.toNat)) []):=by
  obtain ⟨k,rfl⟩:=Int.eq_ofNat_of_zero_le hc.1
  exact gl d k h1 h2 ab ho
theorem ja (d:Dk) (h1:d.cells.length≤1000000) (h2:d.pend.length≤1000000) (ho:el d) (c:Int) (hc:0≤c∧c≤1000000):
    Spec Try.prog 32 (bq [cm d, .v (.int .i64 c)] []) (bc (cm (d.resize c.toNat)) []):=by
  obtain ⟨k,rfl⟩:=Int.eq_ofNat_of_zero_le hc.1
  exact gt d k h1 h2 ab ho
theorem kb (d:Dk) (hg:DkG d) (n:Int):
    Spec Try.prog 21 (bq [cm d, .agg [.v (.int .i64 (eW n)), .v (.int .i64 (ee n)), .v (.int .i64 (ff n)), .sl (eh n).length (cA (eh n))]] []) (bc (cm (stp d n)) []):=by
  have g1:=hg.n
  have g2:=hg.m
  have hB:=ir n
  have hC:=hQ n
  refine Spec.ofN Try.func21 rfl Try.ntmps21 rfl ?_
  refine al fun K1 hK1=> ?_
  refine ai ?_
  refine ah (bC (2,0) _ rfl rfl) ?_
  refine ah (bC (3,0) _ rfl rfl) ?_
  refine ah (aP (4,0) aa rfl rfl) ?_
  refine ak (hK1 _ ?_)
  clear hK1;try clear K1
  refine al fun K2 hK2=> ?_
  refine al fun K3 hK3=> ?_
  refine ai ?_
  first
    | refine ah (au _ aa rfl rfl rfl) ?_
    | refine ah (aw _ aa rfl rfl) ?_
  first
    | refine ah (aB _ aa rfl rfl iT) ?_
    | refine ah (aH _ aa rfl rfl (by first | rfl | exact an _ _ ab | exact ar _ _ ab | assumption | exact an _ _ ab) rfl) ?_
  refine ak (hK3 _ ?_)
  clear hK3;try clear K3
  refine aN ?_
  refine al fun K4 hK4=> ?_
  refine ai ?_
  first
    | refine ah (bo _ _ rfl rfl (by assumption)) ?_
    | refine ah (bo _ _ rfl rfl rfl) ?_
  refine ah (az _ cw) ?_
  refine ak (hK4 _ ?_)
  clear hK4;try clear K4
  refine aY rfl (fun hc7=> ?_) (fun hc7=> ?_)
  · skip
    refine al fun K5 hK5=> ?_
    refine ai ?_
    first
      | refine ah (aE _ aa rfl rfl rfl rfl) ?_
      | refine ah (aD _ aa rfl rfl (by first | rfl | assumption | exact aS _ _ ab) rfl) ?_
      | refine ah (aA _ aa rfl (by first | rfl | assumption | exact aS _ _ ab) rfl) ?_
    refine ah (aX aa (by repeat' (first | exact aJ | refine aG ?_ ?_ | exact Lv.v | exact bd ab | exact Lv.sl | exact Lv.fp | exact Lv.nil | refine Lv.agg rfl ?_ | refine Lv.fn rfl ?_ rfl ?_ | exact ap | refine aj ?_ ?_ | exact Lv.z0)) (ft d ab ab hg.ok) rfl rfl) ?_
    refine ah (aM _ _ aa rfl rfl rfl rfl (Nat.le_of_ble_eq_true rfl) rfl) ?_
    refine ak (hK5 _ ?_)
    clear hK5;try clear K5
    refine bp ?_
    rw [show stp d n=d.sync by simp [stp,hc7]]
    exact bS (.inr rfl) rfl (.cellA aa rfl rfl rfl) (Le.out [] [] (.agg rfl (aj .sl (aj .sl ap))) rfl rfl rfl trivial trivial)
  refine al fun K6 hK6=> ?_
  refine ai ?_
  first
    | refine ah (bo _ _ rfl rfl (by assumption)) ?_
    | refine ah (bo _ _ rfl rfl rfl) ?_
  refine ah (az _ cw) ?_
  refine ak (hK6 _ ?_)
  clear hK6;try clear K6
  refine aY rfl (fun hc11=> ?_) (fun hc11=> ?_)
  · skip
    refine al fun K7 hK7=> ?_
    refine ai ?_
    first
      | refine ah (aE _ aa rfl rfl rfl rfl) ?_
      | refine ah (aD _ aa rfl rfl (by first | rfl | assumption | exact aS _ _ ab) rfl) ?_
      | refine ah (aA _ aa rfl (by first | rfl | assumption | exact aS _ _ ab) rfl) ?_
    first
      | refine ah (au _ aa rfl rfl rfl) ?_
      | refine ah (aw _ aa rfl rfl) ?_
    first
      | refine ah (aB _ aa rfl rfl dt) ?_
      | refine ah (aH _ aa rfl rfl (by first | rfl | exact an _ _ ab | exact ar _ _ ab | assumption | exact an _ _ ab) rfl) ?_
    refine ah (aX aa (by repeat' (first | exact aJ | refine aG ?_ ?_ | exact Lv.v | exact bd ab | exact Lv.sl | exact Lv.fp | exact Lv.nil | refine Lv.agg rfl ?_ | refine Lv.fn rfl ?_ rfl ?_ | exact ap | refine aj ?_ ?_ | exact Lv.z0)) (eZ d ab ab hg.ok (eh n) ab) rfl rfl) ?_
    refine ah (aM _ _ aa rfl rfl rfl rfl (Nat.le_of_ble_eq_true rfl) rfl) ?_
    refine ak (hK7 _ ?_)
    clear hK7;try clear K7
    refine bp ?_
    rw [show stp d n=d.crash (eh n) by simp [stp,hc11]]
    exact bS (.inr rfl) rfl (.cellA aa rfl rfl rfl) (Le.out [] [] (.agg rfl (aj .sl (aj .sl ap))) rfl rfl rfl trivial trivial)
  refine al fun K8 hK8=> ?_
  refine ai ?_
  first
    | refine ah (bo _ _ rfl rfl (by assumption)) ?_
    | refine ah (bo _ _ rfl rfl rfl) ?_
  refine ah (az _ cw) ?_
  refine ak (hK8 _ ?_)
  clear hK8;try clear K8
  refine aY rfl (fun hc17=> ?_) (fun hc17=> ?_)
  · skip
    refine al fun K9 hK9=> ?_
    refine ai ?_
    first
      | refine ah (aE _ aa rfl rfl rfl rfl) ?_
      | refine ah (aD _ aa rfl rfl (by first | rfl | assumption | exact aS _ _ ab) rfl) ?_
      | refine ah (aA _ aa rfl (by first | rfl | assumption | exact aS _ _ ab) rfl) ?_
    first
      | refine ah (au _ aa rfl rfl rfl) ?_
      | refine ah (aw _ aa rfl rfl) ?_
    first
      | refine ah (aB _ aa rfl rfl iT) ?_
      | refine ah (aH _ aa rfl rfl (by first | rfl | exact an _ _ ab | exact ar _ _ ab | assumption | exact an _ _ ab) rfl) ?_
    refine ah (aX aa (by repeat' (first | exact aJ | refine aG ?_ ?_ | exact Lv.v | exact bd ab | exact Lv.sl | exact Lv.fp | exact Lv.nil | refine Lv.agg rfl ?_ | refine Lv.fn rfl ?_ rfl ?_ | exact ap | refine aj ?_ ?_ | exact Lv.z0)) (jO d ab ab hg.ok (ee n) (by have:=hC hc17;omega)) rfl rfl) ?_
    refine ah (aM _ _ aa rfl rfl rfl rfl (Nat.le_of_ble_eq_true rfl) rfl) ?_
    refine ak (hK9 _ ?_)
    clear hK9;try clear K9
    refine bp ?_
    rw [show stp d n=d.resize (ee n).toNat by simp [stp,hc17]]
    exact bS (.inr rfl) rfl (.cellA aa rfl rfl rfl) (Le.out [] [] (.agg rfl (aj .sl (aj .sl ap))) rfl rfl rfl trivial trivial)
  refine aT (hK2 _ ?_)
  clear hK2;try clear K2
  refine al fun K10 hK10=> ?_
  refine ai ?_
  first
    | refine ah (aE _ aa rfl rfl rfl rfl) ?_
    | refine ah (aD _ aa rfl rfl (by first | rfl | assumption | exact aS _ _ ab) rfl) ?_
    | refine ah (aA _ aa rfl (by first | rfl | assumption | exact aS _ _ ab) rfl) ?_
  first
    | refine ah (au _ aa rfl rfl rfl) ?_
    | refine ah (aw _ aa rfl rfl) ?_
  first
    | refine ah (aB _ aa rfl rfl iT) ?_
    | refine ah (aH _ aa rfl rfl (by first | rfl | exact an _ _ ab | exact ar _ _ ab | assumption | exact an _ _ ab) rfl) ?_
  first
    | refine ah (au _ aa rfl rfl rfl) ?_
    | refine ah (aw _ aa rfl rfl) ?_
  first
    | refine ah (aB _ aa rfl rfl iT) ?_
    | refine ah (aH _ aa rfl rfl (by first | rfl | exact an _ _ ab | exact ar _ _ ab | assumption | exact an _ _ ab) rfl) ?_
  refine ah (aX aa (by repeat' (first | exact aJ | refine aG ?_ ?_ | exact Lv.v | exact bd ab | exact Lv.sl | exact Lv.fp | exact Lv.nil | refine Lv.agg rfl ?_ | refine Lv.fn rfl ?_ rfl ?_ | exact ap | refine aj ?_ ?_ | exact Lv.z0)) (gP d ab ab hg.ok _ _) rfl rfl) ?_
  refine ah (aM _ _ aa rfl rfl rfl rfl (Nat.le_of_ble_eq_true rfl) rfl) ?_
  refine ak (hK10 _ ?_)
  clear hK10;try clear K10
  refine bp ?_
  rw [show stp d n=d.write (ee n) (ff n) by simp [stp,hc7,hc11,hc17]]
  exact bS (.inr rfl) rfl (.cellA aa rfl rfl rfl) (Le.out [] [] (.agg rfl (aj .sl (aj .sl ap))) rfl rfl rfl trivial trivial)
theorem jv (d:Dk) (hg:DkG d) (n:Int):
    Spec Try.prog 23 (bq [cm d, .agg [.v (.int .i64 (eW n)), .v (.int .i64 (ee n)), .v (.int .i64 (ff n)), .sl (eh n).length (cA (eh n))]] []) (bc (cm (stp d n)) []):=by
  have g1:=hg.n
  have g2:=hg.m
  have hB:=ir n
  have hC:=hQ n
  refine Spec.ofN Try.func23 rfl Try.ntmps23 rfl ?_
  refine al fun K1 hK1=> ?_
  refine ai ?_
  refine ah (bC (2,0) _ rfl rfl) ?_
  refine ah (bC (3,0) _ rfl rfl) ?_
  refine ah (aP (4,0) aa rfl rfl) ?_
  refine ak (hK1 _ ?_)
  clear hK1;try clear K1
  refine al fun K2 hK2=> ?_
  refine al fun K3 hK3=> ?_
  refine ai ?_
  first
    | refine ah (au _ aa rfl rfl rfl) ?_
    | refine ah (aw _ aa rfl rfl) ?_
  first
    | refine ah (aB _ aa rfl rfl iT) ?_
    | refine ah (aH _ aa rfl rfl (by first | rfl | exact an _ _ ab | exact ar _ _ ab | assumption | exact an _ _ ab) rfl) ?_
  refine ak (hK3 _ ?_)
  clear hK3;try clear K3
  refine aN ?_
  refine al fun K4 hK4=> ?_
  refine ai ?_
  first
    | refine ah (bo _ _ rfl rfl (by assumption)) ?_
    | refine ah (bo _ _ rfl rfl rfl) ?_
  refine ah (az _ cw) ?_
  refine ak (hK4 _ ?_)
  clear hK4;try clear K4
  refine aY rfl (fun hc7=> ?_) (fun hc7=> ?_)
  · skip
    refine al fun K5 hK5=> ?_
    refine ai ?_
    first
      | refine ah (aE _ aa rfl rfl rfl rfl) ?_
      | refine ah (aD _ aa rfl rfl (by first | rfl | assumption | exact aS _ _ ab) rfl) ?_
      | refine ah (aA _ aa rfl (by first | rfl | assumption | exact aS _ _ ab) rfl) ?_
    refine ah (aX aa (by repeat' (first | exact aJ | refine aG ?_ ?_ | exact Lv.v | exact bd ab | exact Lv.sl | exact Lv.fp | exact Lv.nil | refine Lv.agg rfl ?_ | refine Lv.fn rfl ?_ rfl ?_ | exact ap | refine aj ?_ ?_ | exact Lv.z0)) (hX d ab ab hg.ok) rfl rfl) ?_
    refine ah (aM _ _ aa rfl rfl rfl rfl (Nat.le_of_ble_eq_true rfl) rfl) ?_
    refine ak (hK5 _ ?_)
    clear hK5;try clear K5
    refine bp ?_
    rw [show stp d n=d.sync by simp [stp,hc7]]
    exact bS (.inr rfl) rfl (.cellA aa rfl rfl rfl) (Le.out [] [] (.agg rfl (aj .sl (aj .sl ap))) rfl rfl rfl trivial trivial)
  refine al fun K6 hK6=> ?_
  refine ai ?_
  first
    | refine ah (bo _ _ rfl rfl (by assumption)) ?_
    | refine ah (bo _ _ rfl rfl rfl) ?_
  refine ah (az _ cw) ?_
  refine ak (hK6 _ ?_)
  clear hK6;try clear K6
  refine aY rfl (fun hc11=> ?_) (fun hc11=> ?_)
  · skip
    refine al fun K7 hK7=> ?_
    refine ai ?_
    first
      | refine ah (aE _ aa rfl rfl rfl rfl) ?_
      | refine ah (aD _ aa rfl rfl (by first | rfl | assumption | exact aS _ _ ab) rfl) ?_
      | refine ah (aA _ aa rfl (by first | rfl | assumption | exact aS _ _ ab) rfl) ?_
    first
      | refine ah (au _ aa rfl rfl rfl) ?_
      | refine ah (aw _ aa rfl rfl) ?_
    first
      | refine ah (aB _ aa rfl rfl dt) ?_
      | refine ah (aH _ aa rfl rfl (by first | rfl | exact an _ _ ab | exact ar _ _ ab | assumption | exact an _ _ ab) rfl) ?_
    refine ah (aX aa (by repeat' (first | exact aJ | refine aG ?_ ?_ | exact Lv.v | exact bd ab | exact Lv.sl | exact Lv.fp | exact Lv.nil | refine Lv.agg rfl ?_ | refine Lv.fn rfl ?_ rfl ?_ | exact ap | refine aj ?_ ?_ | exact Lv.z0)) (gL d ab ab hg.ok (eh n) ab) rfl rfl) ?_
    refine ah (aM _ _ aa rfl rfl rfl rfl (Nat.le_of_ble_eq_true rfl) rfl) ?_
    refine ak (hK7 _ ?_)
    clear hK7;try clear K7
    refine bp ?_
    rw [show stp d n=d.crash (eh n) by simp [stp,hc11]]
    exact bS (.inr rfl) rfl (.cellA aa rfl rfl rfl) (Le.out [] [] (.agg rfl (aj .sl (aj .sl ap))) rfl rfl rfl trivial trivial)
  refine al fun K8 hK8=> ?_
  refine ai ?_
  first
    | refine ah (bo _ _ rfl rfl (by assumption)) ?_
    | refine ah (bo _ _ rfl rfl rfl) ?_
  refine ah (az _ cw) ?_
  refine ak (hK8 _ ?_)
  clear hK8;try clear K8
  refine aY rfl (fun hc17=> ?_) (fun hc17=> ?_)
  · skip
    refine al fun K9 hK9=> ?_
    refine ai ?_
    first
      | refine ah (aE _ aa rfl rfl rfl rfl) ?_
      | refine ah (aD _ aa rfl rfl (by first | rfl | assumption | exact aS _ _ ab) rfl) ?_
      | refine ah (aA _ aa rfl (by first | rfl | assumption | exact aS _ _ ab) rfl) ?_
    first
      | refine ah (au _ aa rfl rfl rfl) ?_
      | refine ah (aw _ aa rfl rfl) ?_
    first
      | refine ah (aB _ aa rfl rfl iT) ?_
      | refine ah (aH _ aa rfl rfl (by first | rfl | exact an _ _ ab | exact ar _ _ ab | assumption | exact an _ _ ab) rfl) ?_
    refine ah (aX aa (by repeat' (first | exact aJ | refine aG ?_ ?_ | exact Lv.v | exact bd ab | exact Lv.sl | exact Lv.fp | exact Lv.nil | refine Lv.agg rfl ?_ | refine Lv.fn rfl ?_ rfl ?_ | exact ap | refine aj ?_ ?_ | exact Lv.z0)) (ja d ab ab hg.ok (ee n) (by have:=hC hc17;omega)) rfl rfl) ?_
    refine ah (aM _ _ aa rfl rfl rfl rfl (Nat.le_of_ble_eq_true rfl) rfl) ?_
    refine ak (hK9 _ ?_)
    clear hK9;try clear K9
    refine bp ?_
    rw [show stp d n=d.resize (ee n).toNat by simp [stp,hc17]]
    exact bS (.inr rfl) rfl (.cellA aa rfl rfl rfl) (Le.out [] [] (.agg rfl (aj .sl (aj .sl ap))) rfl rfl rfl trivial trivial)
  refine aT (hK2 _ ?_)
  clear hK2;try clear K2
  refine al fun K10 hK10=> ?_
  refine ai ?_
  first
    | refine ah (aE _ aa rfl rfl rfl rfl) ?_
    | refine ah (aD _ aa rfl rfl (by first | rfl | assumption | exact aS _ _ ab) rfl) ?_
    | refine ah (aA _ aa rfl (by first | rfl | assumption | exact aS _ _ ab) rfl) ?_
  first
    | refine ah (au _ aa rfl rfl rfl) ?_
    | refine ah (aw _ aa rfl rfl) ?_
  first
    | refine ah (aB _ aa rfl rfl iT) ?_
    | refine ah (aH _ aa rfl rfl (by first | rfl | exact an _ _ ab | exact ar _ _ ab | assumption | exact an _ _ ab) rfl) ?_
  first
    | refine ah (au _ aa rfl rfl rfl) ?_
    | refine ah (aw _ aa rfl rfl) ?_
  first
    | refine ah (aB _ aa rfl rfl iT) ?_
    | refine ah (aH _ aa rfl rfl (by first | rfl | exact an _ _ ab | exact ar _ _ ab | assumption | exact an _ _ ab) rfl) ?_
  refine ah (aX aa (by repeat' (first | exact aJ | refine aG ?_ ?_ | exact Lv.v | exact bd ab | exact Lv.sl | exact Lv.fp | exact Lv.nil | refine Lv.agg rfl ?_ | refine Lv.fn rfl ?_ rfl ?_ | exact ap | refine aj ?_ ?_ | exact Lv.z0)) (gE d _ _ ab ab hg.ok) rfl rfl) ?_
  refine ah (aM _ _ aa rfl rfl rfl rfl (Nat.le_of_ble_eq_true rfl) rfl) ?_
  refine ak (hK10 _ ?_)
  clear hK10;try clear K10
  refine bp ?_
  rw [show stp d n=d.write (ee n) (ff n) by simp [stp,hc7,hc11,hc17]]
  exact bS (.inr rfl) rfl (.cellA aa rfl rfl rfl) (Le.out [] [] (.agg rfl (aj .sl (aj .sl ap))) rfl rfl rfl trivial trivial)
theorem ii (cells:Int) (hc: -9223372036854775808≤cells∧cells≤9223372036854775807) (l:List Int) (h1:l.length≤4611686018427387904) (hr:Rng l):
    Spec Try.prog 5 (bq [.v (.int .i64 cells), .sl l.length (bG l)] []) (bc (cm (run (cc cells 7).toNat (l.take 20))) []):=by
  have ha0:=eb cells 7 ab
  have ha1:=dW cells 7 ab
  have har:=dk cells 7 ab ab hc.1 hc.2
  have hop:=gA l h1 hr
  have hL:(l.take 20).length≤20:=by rw [List.length_take];omega
  generalize l.take 20=L at*
  obtain ⟨c,hk⟩:=Int.eq_ofNat_of_zero_le ha0
  rw [hk] at har ha1
  rw [hk,Int.toNat_natCast]
  have hnw:=gS c ab
  refine Spec.ofN Try.func5 rfl Try.ntmps5 rfl ?_
  refine al fun K1 hK1=> ?_
  refine ai ?_
  refine ah (aP (4,0) aa rfl rfl) ?_
  refine ak (hK1 _ ?_)
  clear hK1;try clear K1
  refine al fun K2 hK2=> ?_
  refine ai ?_
  refine ah (am _ aR) ?_
  refine ah (aX aa (by repeat' (first | exact aJ | refine aG ?_ ?_ | exact Lv.v | exact bd ab | exact Lv.sl | exact Lv.fp | exact Lv.nil | refine Lv.agg rfl ?_ | refine Lv.fn rfl ?_ rfl ?_ | exact ap | refine aj ?_ ?_ | exact Lv.z0)) (har) rfl rfl) ?_
  refine ah (aX aa (by repeat' (first | exact aJ | refine aG ?_ ?_ | exact Lv.v | exact bd ab | exact Lv.sl | exact Lv.fp | exact Lv.nil | refine Lv.agg rfl ?_ | refine Lv.fn rfl ?_ rfl ?_ | exact ap | refine aj ?_ ?_ | exact Lv.z0)) (hnw) rfl rfl) ?_
  refine ah (aP (5,0) aa rfl rfl) ?_
  refine ah (aM _ _ aa rfl rfl rfl rfl (Nat.le_of_ble_eq_true rfl) rfl) ?_
  refine ak (hK2 _ ?_)
  clear hK2;try clear K2
  refine al fun K3 hK3=> ?_
  refine ai ?_
  refine ah (am _ dz) ?_
  refine ah (aX aa (by repeat' (first | exact aJ | refine aG ?_ ?_ | exact Lv.v | exact bd ab | exact Lv.sl | exact Lv.fp | exact Lv.nil | refine Lv.agg rfl ?_ | refine Lv.fn rfl ?_ rfl ?_ | exact ap | refine aj ?_ ?_ | exact Lv.z0)) (hop) rfl rfl) ?_
  refine ah (az _ dz) ?_
  refine ak (hK3 _ ?_)
  clear hK3;try clear K3
  refine al fun K4 hK4=> ?_
  refine al fun K5 hK5=> ?_
  refine ai ?_
  refine ah (az _ aR) ?_
  refine ak (hK5 _ ?_)
  clear hK5;try clear K5
  refine aN ?_
  refine bn (α:=Nat) (fun i=> i≤L.length) 26 [(4,_),(5,_),(6,_)] [((4,0),_)] (fun i=> [(7, .v (.int .i64 (i:Int)))]) (fun i=> [((5,0), .box 25 [.sl (run c (L.take i)).cells.length (bG (run c (L.take i)).cells), .sl (run c (L.take i)).pend.length (cN (run c (L.take i)).pend)])]) [] [] (fun i=> L.length - i) 0 ?_ (by
    refine Le.mkJ [] [] rfl ?_ ?_ trivial trivial ?_
    · exact ⟨(iP rfl),(iP rfl),(iS rfl),(bd (by first | rfl | omega | (simp;done) | (simp;omega) | assumption)),trivial⟩
    · exact ⟨(ay rfl rfl rfl),(eA rfl rfl rfl rfl (aj (cb (by first | rfl | omega | (simp;done) | (simp;omega) | assumption) (by first | rfl | omega | (simp;done) | (simp;omega) | assumption)) (aj (cb (by first | rfl | omega | (simp;done) | (simp;omega) | assumption) (by first | rfl | omega | (simp;done) | (simp;omega) | assumption)) ap))),trivial⟩
    kernel_rfl) ?_
  · first | omega | trivial | exact ⟨by omega,by omega⟩
  intro i hi
  refine al fun K6 hK6=> ?_
  refine al fun K7 hK7=> ?_
  refine ai ?_
  refine ah (am _ aR) ?_
  refine ah (am _ dz) ?_
  refine ah (bl _ aa rfl) ?_
  first
    | refine ah (aL _ _ rfl rfl (by assumption)) ?_
    | refine ah (aL _ _ rfl rfl rfl) ?_
  refine ak (hK7 _ ?_)
  clear hK7;try clear K7
  refine aY rfl (fun hc16=> ?_) (fun hc16=> ?_)
  · skip
    have hiL:i < L.length:=by omega
    have hsn:=gI c L i hiL
    have hg:=DkG.run c ab (L.take i)
    have hd:=kb _ hg (cc (L.getD i 0) 1000000)
    rw [← hsn] at hd
    refine aT (hK6 _ ?_)
    clear hK6;try clear K6
    refine al fun K8 hK8=> ?_
    refine aN ?_
    refine bz (σ':=bi 26 [(4,_),(5,_),(6,_),(7,_)] [((4,0),_),((5,0),_)] [] []) (by
      refine Le.mkJ [] [] rfl ?_ ?_ trivial trivial ?_
      · exact ⟨(iP rfl),(iP rfl),(iS rfl),(iV rfl),trivial⟩
      · exact ⟨(ay rfl rfl rfl),(ay rfl rfl rfl),trivial⟩
      kernel_rfl) ?_
    refine dq 6 [19,20,21,22,23,24] [] ac ac rfl (be rfl) (rfl:_=[_,_,_,_,_,_]) (rfl:_=[_]) ?_
    first
      | refine ax (_,[]) (fun τ=> aE _ aa rfl rfl rfl rfl) ?_
      | refine ax (_,[]) (fun τ=> aD _ aa rfl rfl (by first | rfl | assumption | exact aS _ _ ab) rfl) ?_
      | refine ax (_,[]) (fun τ=> aA _ aa rfl (by first | rfl | assumption | exact aS _ _ ab) rfl) ?_
    refine aO (rfl:_=[_]) ?_
    refine ax (_,[]) (fun τ=> am _ dz) ?_
    refine aO (rfl:_=[_,_]) ?_
    refine ax (_,[]) (fun τ=> am _ aR) ?_
    refine aO (rfl:_=[_,_,_]) ?_
    first
      | refine ax (_,[]) (fun τ=> bB _ _ aa rfl rfl _ rfl ab (by first | assumption | decide | (simp only [aF,aV,bm,aF,aU,aV,bR];omega) | (simp;done) | (simp;omega) | (simp [bG,cA];omega)) (by first | exact Nat.mul_one _ | rfl | omega)) ?_
      | refine ax (_,[]) (fun τ=> bB _ _ aa rfl rfl (Int.toNat _) (Int.toNat_of_nonneg ab).symm ab (by first | assumption | decide | (simp only [aF,aV,bm,aF,aU,aV,bR];omega) | (simp;done) | (simp;omega) | (simp [bG,cA];omega)) (by first | exact Nat.mul_one _ | rfl | omega)) ?_
    refine aO (rfl:_=[_,_,_,_]) ?_
    refine ax (_,[]) (fun τ=> aA _ aa rfl (by exact aS _ _ ab) rfl) ?_
    refine aO (rfl:_=[_,_,_,_,_]) ?_
    refine ax (_,[]) (fun τ=> (aX aa (by repeat' (first | exact aJ | refine aG ?_ ?_ | exact Lv.v | exact bd ab | exact Lv.sl | exact Lv.fp | exact Lv.nil | refine Lv.agg rfl ?_ | refine Lv.fn rfl ?_ rfl ?_ | exact ap | refine aj ?_ ?_ | exact Lv.z0)) (hd) rfl rfl)) ?_
    refine aO (rfl:_=[_,_,_,_,_,_]) ?_
    refine cJ ⟨rfl,?_⟩
    refine ah (aM _ _ aa rfl rfl rfl rfl (Nat.le_of_ble_eq_true rfl) rfl) ?_
    refine ak (hK8 _ ?_)
    clear hK8;try clear K8
    refine ai ?_
    refine ah (am _ aR) ?_
    first
      | refine ah (aK _ _ rfl rfl (bQ ab)) ?_
      | refine ah (aK _ _ rfl rfl rfl) ?_
    refine ah (az _ aR) ?_
    refine ak ?_
    refine ⟨i+1,?_,?_,?_⟩
    · first | omega | trivial | exact ⟨by omega,by omega⟩
    · skip
      refine Le.mkJ [] [] rfl ?_ ?_ trivial trivial ?_
      · exact ⟨(iP rfl),(iP rfl),(iS rfl),(bd (by first | rfl | omega | (simp;done) | (simp;omega) | assumption)),trivial⟩
      · exact ⟨(ay rfl rfl rfl),(eA rfl rfl rfl rfl (aj (cb (by first | rfl | omega | (simp;done) | (simp;omega) | assumption) (by first | rfl | omega | (simp;done) | (simp;omega) | assumption)) (aj (cb (by first | rfl | omega | (simp;done) | (simp;omega) | assumption) (by first | rfl | omega | (simp;done) | (simp;omega) | assumption)) ap))),trivial⟩
      kernel_rfl
    omega
  have e:L.take i=L:=List.take_of_length_le ab
  rw [e]
  refine bv ?_
  refine id (hK4 _ ?_)
  clear hK4;try clear K4
  refine al fun K9 hK9=> ?_
  refine ai ?_
  first
    | refine ah (aE _ aa rfl rfl rfl rfl) ?_
    | refine ah (aD _ aa rfl rfl (by first | rfl | assumption | exact aS _ _ ab) rfl) ?_
    | refine ah (aA _ aa rfl (by first | rfl | assumption | exact aS _ _ ab) rfl) ?_
  refine ah (aM _ _ aa rfl rfl rfl rfl (Nat.le_of_ble_eq_true rfl) rfl) ?_
  refine ak (hK9 _ ?_)
  clear hK9;try clear K9
  refine bp ?_
  exact bS (.inr rfl) rfl (.cellA aa rfl rfl rfl) (Le.out [] [] (.agg rfl (aj .sl (aj .sl ap))) rfl rfl rfl trivial trivial)
theorem gC (cells:Int) (hc: -9223372036854775808≤cells∧cells≤9223372036854775807) (l:List Int) (h1:l.length≤4611686018427387904) (hr:Rng l):
    Spec Try.prog 6 (bq [.v (.int .i64 cells), .sl l.length (bG l)] []) (bc (cm (run (cc cells 7).toNat (l.take 20))) []):=by
  have ha0:=eb cells 7 ab
  have ha1:=dW cells 7 ab
  have har:=dk cells 7 ab ab hc.1 hc.2
  have hop:=gA l h1 hr
  have hL:(l.take 20).length≤20:=by rw [List.length_take];omega
  generalize l.take 20=L at*
  obtain ⟨c,hk⟩:=Int.eq_ofNat_of_zero_le ha0
  rw [hk] at har ha1
  rw [hk,Int.toNat_natCast]
  have hnw:=iL c ab
  refine Spec.ofN Try.func6 rfl Try.ntmps6 rfl ?_
  refine al fun K1 hK1=> ?_
  refine ai ?_
  refine ah (aP (4,0) aa rfl rfl) ?_
  refine ak (hK1 _ ?_)
  clear hK1;try clear K1
  refine al fun K2 hK2=> ?_
  refine ai ?_
  refine ah (am _ aR) ?_
  refine ah (aX aa (by repeat' (first | exact aJ | refine aG ?_ ?_ | exact Lv.v | exact bd ab | exact Lv.sl | exact Lv.fp | exact Lv.nil | refine Lv.agg rfl ?_ | refine Lv.fn rfl ?_ rfl ?_ | exact ap | refine aj ?_ ?_ | exact Lv.z0)) (har) rfl rfl) ?_
  refine ah (aX aa (by repeat' (first | exact aJ | refine aG ?_ ?_ | exact Lv.v | exact bd ab | exact Lv.sl | exact Lv.fp | exact Lv.nil | refine Lv.agg rfl ?_ | refine Lv.fn rfl ?_ rfl ?_ | exact ap | refine aj ?_ ?_ | exact Lv.z0)) (hnw) rfl rfl) ?_
  refine ah (aP (5,0) aa rfl rfl) ?_
  refine ah (aM _ _ aa rfl rfl rfl rfl (Nat.le_of_ble_eq_true rfl) rfl) ?_
  refine ak (hK2 _ ?_)
  clear hK2;try clear K2
  refine al fun K3 hK3=> ?_
  refine ai ?_
  refine ah (am _ dz) ?_
  refine ah (aX aa (by repeat' (first | exact aJ | refine aG ?_ ?_ | exact Lv.v | exact bd ab | exact Lv.sl | exact Lv.fp | exact Lv.nil | refine Lv.agg rfl ?_ | refine Lv.fn rfl ?_ rfl ?_ | exact ap | refine aj ?_ ?_ | exact Lv.z0)) (hop) rfl rfl) ?_
  refine ah (az _ dz) ?_
  refine ak (hK3 _ ?_)
  clear hK3;try clear K3
  refine al fun K4 hK4=> ?_
  refine al fun K5 hK5=> ?_
  refine ai ?_
  refine ah (az _ aR) ?_
  refine ak (hK5 _ ?_)
  clear hK5;try clear K5
  refine aN ?_
  refine bn (α:=Nat) (fun i=> i≤L.length) 26 [(4,_),(5,_),(6,_)] [((4,0),_)] (fun i=> [(7, .v (.int .i64 (i:Int)))]) (fun i=> [((5,0), .box 25 [.sl (run c (L.take i)).cells.length (bG (run c (L.take i)).cells), .sl (run c (L.take i)).pend.length (cN (run c (L.take i)).pend)])]) [] [] (fun i=> L.length - i) 0 ?_ (by
    refine Le.mkJ [] [] rfl ?_ ?_ trivial trivial ?_
    · exact ⟨(iP rfl),(iP rfl),(iS rfl),(bd (by first | rfl | omega | (simp;done) | (simp;omega) | assumption)),trivial⟩
    · exact ⟨(ay rfl rfl rfl),(eA rfl rfl rfl rfl (aj (cb (by first | rfl | omega | (simp;done) | (simp;omega) | assumption) (by first | rfl | omega | (simp;done) | (simp;omega) | assumption)) (aj (cb (by first | rfl | omega | (simp;done) | (simp;omega) | assumption) (by first | rfl | omega | (simp;done) | (simp;omega) | assumption)) ap))),trivial⟩
    kernel_rfl) ?_
  · first | omega | trivial | exact ⟨by omega,by omega⟩
  intro i hi
  refine al fun K6 hK6=> ?_
  refine al fun K7 hK7=> ?_
  refine ai ?_
  refine ah (am _ aR) ?_
  refine ah (am _ dz) ?_
  refine ah (bl _ aa rfl) ?_
  first
    | refine ah (aL _ _ rfl rfl (by assumption)) ?_
    | refine ah (aL _ _ rfl rfl rfl) ?_
  refine ak (hK7 _ ?_)
  clear hK7;try clear K7
  refine aY rfl (fun hc16=> ?_) (fun hc16=> ?_)
  · skip
    have hiL:i < L.length:=by omega
    have hsn:=gI c L i hiL
    have hg:=DkG.run c ab (L.take i)
    have hd:=jv _ hg (cc (L.getD i 0) 1000000)
    rw [← hsn] at hd
    refine aT (hK6 _ ?_)
    clear hK6;try clear K6
    refine al fun K8 hK8=> ?_
    refine aN ?_
    refine bz (σ':=bi 26 [(4,_),(5,_),(6,_),(7,_)] [((4,0),_),((5,0),_)] [] []) (by
      refine Le.mkJ [] [] rfl ?_ ?_ trivial trivial ?_
      · exact ⟨(iP rfl),(iP rfl),(iS rfl),(iV rfl),trivial⟩
      · exact ⟨(ay rfl rfl rfl),(ay rfl rfl rfl),trivial⟩
      kernel_rfl) ?_
    refine dq 6 [19,20,21,22,23,24] [] ac ac rfl (be rfl) (rfl:_=[_,_,_,_,_,_]) (rfl:_=[_]) ?_
    first
      | refine ax (_,[]) (fun τ=> aE _ aa rfl rfl rfl rfl) ?_
      | refine ax (_,[]) (fun τ=> aD _ aa rfl rfl (by first | rfl | assumption | exact aS _ _ ab) rfl) ?_
      | refine ax (_,[]) (fun τ=> aA _ aa rfl (by first | rfl | assumption | exact aS _ _ ab) rfl) ?_
    refine aO (rfl:_=[_]) ?_
    refine ax (_,[]) (fun τ=> am _ dz) ?_
    refine aO (rfl:_=[_,_]) ?_
    refine ax (_,[]) (fun τ=> am _ aR) ?_
    refine aO (rfl:_=[_,_,_]) ?_
    first
      | refine ax (_,[]) (fun τ=> bB _ _ aa rfl rfl _ rfl ab (by first | assumption | decide | (simp only [aF,aV,bm,aF,aU,aV,bR];omega) | (simp;done) | (simp;omega) | (simp [bG,cA];omega)) (by first | exact Nat.mul_one _ | rfl | omega)) ?_
      | refine ax (_,[]) (fun τ=> bB _ _ aa rfl rfl (Int.toNat _) (Int.toNat_of_nonneg ab).symm ab (by first | assumption | decide | (simp only [aF,aV,bm,aF,aU,aV,bR];omega) | (simp;done) | (simp;omega) | (simp [bG,cA];omega)) (by first | exact Nat.mul_one _ | rfl | omega)) ?_
    refine aO (rfl:_=[_,_,_,_]) ?_
    refine ax (_,[]) (fun τ=> aA _ aa rfl (by exact aS _ _ ab) rfl) ?_
    refine aO (rfl:_=[_,_,_,_,_]) ?_
    refine ax (_,[]) (fun τ=> (aX aa (by repeat' (first | exact aJ | refine aG ?_ ?_ | exact Lv.v | exact bd ab | exact Lv.sl | exact Lv.fp | exact Lv.nil | refine Lv.agg rfl ?_ | refine Lv.fn rfl ?_ rfl ?_ | exact ap | refine aj ?_ ?_ | exact Lv.z0)) (hd) rfl rfl)) ?_
    refine aO (rfl:_=[_,_,_,_,_,_]) ?_
    refine cJ ⟨rfl,?_⟩
    refine ah (aM _ _ aa rfl rfl rfl rfl (Nat.le_of_ble_eq_true rfl) rfl) ?_
    refine ak (hK8 _ ?_)
    clear hK8;try clear K8
    refine ai ?_
    refine ah (am _ aR) ?_
    first
      | refine ah (aK _ _ rfl rfl (bQ ab)) ?_
      | refine ah (aK _ _ rfl rfl rfl) ?_
    refine ah (az _ aR) ?_
    refine ak ?_
    refine ⟨i+1,?_,?_,?_⟩
    · first | omega | trivial | exact ⟨by omega,by omega⟩
    · skip
      refine Le.mkJ [] [] rfl ?_ ?_ trivial trivial ?_
      · exact ⟨(iP rfl),(iP rfl),(iS rfl),(bd (by first | rfl | omega | (simp;done) | (simp;omega) | assumption)),trivial⟩
      · exact ⟨(ay rfl rfl rfl),(eA rfl rfl rfl rfl (aj (cb (by first | rfl | omega | (simp;done) | (simp;omega) | assumption) (by first | rfl | omega | (simp;done) | (simp;omega) | assumption)) (aj (cb (by first | rfl | omega | (simp;done) | (simp;omega) | assumption) (by first | rfl | omega | (simp;done) | (simp;omega) | assumption)) ap))),trivial⟩
      kernel_rfl
    omega
  have e:L.take i=L:=List.take_of_length_le ab
  rw [e]
  refine bv ?_
  refine id (hK4 _ ?_)
  clear hK4;try clear K4
  refine al fun K9 hK9=> ?_
  refine ai ?_
  first
    | refine ah (aE _ aa rfl rfl rfl rfl) ?_
    | refine ah (aD _ aa rfl rfl (by first | rfl | assumption | exact aS _ _ ab) rfl) ?_
    | refine ah (aA _ aa rfl (by first | rfl | assumption | exact aS _ _ ab) rfl) ?_
  refine ah (aM _ _ aa rfl rfl rfl rfl (Nat.le_of_ble_eq_true rfl) rfl) ?_
  refine ak (hK9 _ ?_)
  clear hK9;try clear K9
  refine bp ?_
  exact bS (.inr rfl) rfl (.cellA aa rfl rfl rfl) (Le.out [] [] (.agg rfl (aj .sl (aj .sl ap))) rfl rfl rfl trivial trivial)
theorem iW (w:World) (cs:Array Value) (j:Nat) (v:Value) (hv:cs[j]? =some v):(part 3 cs j).run Try.prog w= .ok v w:=by
  simp [part,isAgg,run_underlying Try.underlying3,hv]
theorem kZ (n:Nat) (w:World) (a b:Int):(Op.equalIn (n+1) 3 (.int .i64 a) (.int .i64 b)).run Try.prog w= .ok (decide (a=b)) w:=by
  rw [run_equalIn_int w n 3 .i64 .i64 a b Try.underlying3]
  by_cases h:a=b <;> simp [h]
theorem lh (w:World) (a b:Int):(Op.equal 35 (.agg #[.int .i64 a, .int .i64 b]) (.agg #[.int .i64 a, .int .i64 b])).run Try.prog w= .ok true w:=by
  have h:=iW w #[.int .i64 a, .int .i64 b]
  have e:=kZ 9998 w
  show (Op.equalIn (9999+1) _ _ _).run Try.prog w=_
  rw [Op.equalIn]
  simp only [Sem.run_bind,run_underlying Try.underlying35,Result.andThen_ok]
  simp [Op.eqFields,h 0 _ rfl,h 1 _ rfl,e]
theorem ik (xs:List Int) (h:xs.length≤4611686018427387904):Spec Try.prog 19 (bq [.sl xs.length (bG xs), .sl xs.length (bG xs)] []) (bc (.v (.bool true)) []):=by
  have:=iM xs.length xs.length xs xs rfl rfl h h
  rwa [decide_eq_true rfl] at this
section
variable {σ:St} {dd:Option Tmp} {ty:TypeId}
theorem kJ {T t':TypeId} (x y:Operand) (us:List Value) (hx:σ.eval x= .agg (us.map AV.v)) (hy:σ.eval y= .agg (us.map AV.v)) (hg:Try.prog.eqGuardType Try.prog.depth T=false) (he: ∀ w,(Op.equal T (.agg us.toArray) (.agg us.toArray)).run Try.prog w= .ok true w):cD Try.prog dd (.binOp .neq T x y t') ty σ (σ.put dd (.v (.bool false))):=by
  refine jH us us hx hy fun o ρ w ho hx hy=> ?_
  have:=he w
  simp [execOp,ho,hx,hy,eqGuard,binOp,hg,this,Sem.run]
end
theorem gU (d:Dk) (h1:d.cells.length≤1000000) (h2:d.pend.length≤1000000):Spec Try.prog 13 (bq [cm d,cm d] []) (bc (.v (.bool true)) []):=by
  have hs:=ik d.cells ab
  refine Spec.ofN Try.func13 rfl Try.ntmps13 rfl ?_
  refine al fun K1 hK1=> ?_
  refine ai ?_
  refine ah (bC (2,0) _ rfl rfl) ?_
  refine ah (bC (3,0) _ rfl rfl) ?_
  refine ah (az _ cw) ?_
  refine ak (hK1 _ ?_)
  clear hK1;try clear K1
  refine al fun K2 hK2=> ?_
  refine al fun K3 hK3=> ?_
  refine ai ?_
  first
    | refine ah (au _ aa rfl rfl rfl) ?_
    | refine ah (aw _ aa rfl rfl) ?_
  first
    | refine ah (aB _ aa rfl rfl dt) ?_
    | refine ah (aH _ aa rfl rfl (by first | rfl | exact an _ _ ab | exact ar _ _ ab | assumption | exact an _ _ ab) rfl) ?_
  first
    | refine ah (au _ aa rfl rfl rfl) ?_
    | refine ah (aw _ aa rfl rfl) ?_
  first
    | refine ah (aB _ aa rfl rfl dt) ?_
    | refine ah (aH _ aa rfl rfl (by first | rfl | exact an _ _ ab | exact ar _ _ ab | assumption | exact an _ _ ab) rfl) ?_
  refine ah (aX aa (by repeat' (first | exact aJ | refine aG ?_ ?_ | exact Lv.v | exact bd ab | exact Lv.sl | exact Lv.fp | exact Lv.nil | refine Lv.agg rfl ?_ | refine Lv.fn rfl ?_ rfl ?_ | exact ap | refine aj ?_ ?_ | exact Lv.z0)) (hs) rfl rfl) ?_
  refine ah (eF _ rfl rfl) ?_
  refine ah (am _ cw) ?_
  first
    | refine aI rfl rfl (au _ aa rfl rfl rfl) ?_
    | refine aI rfl rfl (aw _ aa rfl rfl) ?_
  first
    | refine aI rfl rfl (aB _ aa rfl rfl dt) ?_
    | refine aI rfl rfl (aH _ aa rfl rfl (by first | rfl | exact an _ _ ab | exact ar _ _ ab | assumption | exact an _ _ ab) rfl) ?_
  refine aI rfl rfl (bl _ aa rfl) ?_
  first
    | refine aI rfl rfl (au _ aa rfl rfl rfl) ?_
    | refine aI rfl rfl (aw _ aa rfl rfl) ?_
  first
    | refine aI rfl rfl (aB _ aa rfl rfl dt) ?_
    | refine aI rfl rfl (aH _ aa rfl rfl (by first | rfl | exact an _ _ ab | exact ar _ _ ab | assumption | exact an _ _ ab) rfl) ?_
  refine aI rfl rfl (bl _ aa rfl) ?_
  refine aI rfl rfl (fM (r:=false) _ _ rfl rfl (bne_self_eq_false _)) ?_
  refine ah (bu _ _ _ rfl cw) ?_
  refine ak (hK3 _ ?_)
  clear hK3;try clear K3
  refine cq rfl rfl ?_
  refine aT (hK2 _ ?_)
  clear hK2;try clear K2
  refine al fun K4 hK4=> ?_
  refine al fun K5 hK5=> ?_
  refine bz (σ':=bi 39 [(2,_),(3,_)] [((2,0),_),((3,0),_)] [] []) (by
    refine Le.mkJ [] [] rfl ?_ ?_ trivial trivial ?_
    · exact ⟨(iP rfl),(iP rfl),trivial⟩
    · exact ⟨(ay rfl rfl rfl),(ay rfl rfl rfl),trivial⟩
    kernel_rfl) ?_
  refine ai ?_
  refine ah (az _ aR) ?_
  refine ak (hK5 _ ?_)
  clear hK5;try clear K5
  refine aN ?_
  refine bn (α:=Nat) (fun k=> k≤d.pend.length) 39 [(2,_),(3,_)] [((2,0),_),((3,0),_)] (fun k=> [(5, .v (.int .i64 (k:Int)))]) (fun k=> []) [] [] (fun k=> d.pend.length - k) 0 ?_ (by
    refine Le.mkJ [] [] rfl ?_ ?_ trivial trivial ?_
    · exact ⟨(iP rfl),(iP rfl),(bd (by first | rfl | omega | (simp;done) | (simp;omega) | assumption)),trivial⟩
    · exact ⟨(ay rfl rfl rfl),(ay rfl rfl rfl),trivial⟩
    kernel_rfl) ?_
  · first | omega | trivial | exact ⟨by omega,by omega⟩
  intro k hk
  refine al fun K6 hK6=> ?_
  refine al fun K7 hK7=> ?_
  refine ai ?_
  refine ah (am _ aR) ?_
  first
    | refine ah (au _ aa rfl rfl rfl) ?_
    | refine ah (aw _ aa rfl rfl) ?_
  first
    | refine ah (aB _ aa rfl rfl dt) ?_
    | refine ah (aH _ aa rfl rfl (by first | rfl | exact an _ _ ab | exact ar _ _ ab | assumption | exact an _ _ ab) rfl) ?_
  refine ah (bl _ aa rfl) ?_
  first
    | refine ah (aL _ _ rfl rfl (by assumption)) ?_
    | refine ah (aL _ _ rfl rfl rfl) ?_
  refine ak (hK7 _ ?_)
  clear hK7;try clear K7
  refine aY rfl (fun hc25=> ?_) (fun hc25=> ?_)
  · skip
    have hia:=bM d.pend k ab
    generalize d.pend.getD k (0,0)=w at hia
    refine aT (hK6 _ ?_)
    clear hK6;try clear K6
    refine al fun K8 hK8=> ?_
    refine aN ?_
    refine al fun K9 hK9=> ?_
    refine bz (σ':=bi 39 [(2,_),(3,_),(5,_)] [((2,0),_),((3,0),_)] [] []) (by
      refine Le.mkJ [] [] rfl ?_ ?_ trivial trivial ?_
      · exact ⟨(iP rfl),(iP rfl),(iV rfl),trivial⟩
      · exact ⟨(ay rfl rfl rfl),(ay rfl rfl rfl),trivial⟩
      kernel_rfl) ?_
    refine dq 11 [28,29,30,31,32,33,34,35,36,37,38] [] ac ac rfl (be rfl) (rfl:_=[_,_,_,_,_,_,_,_,_,_,_]) (rfl:_=[]) ?_
    first
      | refine ax (_,[]) (fun τ=> au _ aa rfl rfl rfl) ?_
      | refine ax (_,[]) (fun τ=> aw _ aa rfl rfl) ?_
    refine aO (rfl:_=[_]) ?_
    first
      | refine ax (_,[]) (fun τ=> aB _ aa rfl rfl dt) ?_
      | refine ax (_,[]) (fun τ=> aH _ aa rfl rfl (by first | rfl | exact an _ _ ab | exact ar _ _ ab | assumption | exact an _ _ ab) rfl) ?_
    refine aO (rfl:_=[_,_]) ?_
    refine ax (_,[]) (fun τ=> am _ aR) ?_
    refine aO (rfl:_=[_,_,_]) ?_
    first
      | refine ax (_,[]) (fun τ=> bB _ _ aa rfl rfl _ rfl ab (by first | assumption | decide | (simp only [aF,aV,bm,aF,aU,aV,bR];omega) | (simp;done) | (simp;omega) | (simp [bG,cA];omega)) (by first | exact Nat.mul_one _ | rfl | omega)) ?_
      | refine ax (_,[]) (fun τ=> bB _ _ aa rfl rfl (Int.toNat _) (Int.toNat_of_nonneg ab).symm ab (by first | assumption | decide | (simp only [aF,aV,bm,aF,aU,aV,bR];omega) | (simp;done) | (simp;omega) | (simp [bG,cA];omega)) (by first | exact Nat.mul_one _ | rfl | omega)) ?_
    refine aO (rfl:_=[_,_,_,_]) ?_
    refine ax (_,[]) (fun τ=> aA _ aa rfl (by exact hia) rfl) ?_
    refine aO (rfl:_=[_,_,_,_,_]) ?_
    first
      | refine ax (_,[]) (fun τ=> au _ aa rfl rfl rfl) ?_
      | refine ax (_,[]) (fun τ=> aw _ aa rfl rfl) ?_
    refine aO (rfl:_=[_,_,_,_,_,_]) ?_
    first
      | refine ax (_,[]) (fun τ=> aB _ aa rfl rfl dt) ?_
      | refine ax (_,[]) (fun τ=> aH _ aa rfl rfl (by first | rfl | exact an _ _ ab | exact ar _ _ ab | assumption | exact an _ _ ab) rfl) ?_
    refine aO (rfl:_=[_,_,_,_,_,_,_]) ?_
    refine ax (_,[]) (fun τ=> am _ aR) ?_
    refine aO (rfl:_=[_,_,_,_,_,_,_,_]) ?_
    first
      | refine ax (_,[]) (fun τ=> bB _ _ aa rfl rfl _ rfl ab (by first | assumption | decide | (simp only [aF,aV,bm,aF,aU,aV,bR];omega) | (simp;done) | (simp;omega) | (simp [bG,cA];omega)) (by first | exact Nat.mul_one _ | rfl | omega)) ?_
      | refine ax (_,[]) (fun τ=> bB _ _ aa rfl rfl (Int.toNat _) (Int.toNat_of_nonneg ab).symm ab (by first | assumption | decide | (simp only [aF,aV,bm,aF,aU,aV,bR];omega) | (simp;done) | (simp;omega) | (simp [bG,cA];omega)) (by first | exact Nat.mul_one _ | rfl | omega)) ?_
    refine aO (rfl:_=[_,_,_,_,_,_,_,_,_]) ?_
    refine ax (_,[]) (fun τ=> aA _ aa rfl (by exact hia) rfl) ?_
    refine aO (rfl:_=[_,_,_,_,_,_,_,_,_,_]) ?_
    refine ax (_,[]) (fun τ=> kJ _ _ [.int .i64 w.1, .int .i64 w.2] rfl rfl ac (fun W=> lh W w.1 w.2)) ?_
    refine aO (rfl:_=[_,_,_,_,_,_,_,_,_,_,_]) ?_
    refine cJ ⟨rfl,?_⟩
    refine ak (hK9 _ ?_)
    clear hK9;try clear K9
    refine cq rfl rfl ?_
    refine aT (hK8 _ ?_)
    clear hK8;try clear K8
    refine ai ?_
    refine ah (am _ aR) ?_
    first
      | refine ah (aK _ _ rfl rfl (bQ ab)) ?_
      | refine ah (aK _ _ rfl rfl rfl) ?_
    refine ah (az _ aR) ?_
    refine ak ?_
    refine ⟨k+1,?_,?_,?_⟩
    · first | omega | trivial | exact ⟨by omega,by omega⟩
    · skip
      refine Le.mkJ [] [] rfl ?_ ?_ trivial trivial ?_
      · exact ⟨(iP rfl),(iP rfl),(bd (by first | rfl | omega | (simp;done) | (simp;omega) | assumption)),trivial⟩
      · exact ⟨(ay rfl rfl rfl),(ay rfl rfl rfl),trivial⟩
      kernel_rfl
    omega
  refine bv ?_
  refine id (hK4 _ ?_)
  clear hK4;try clear K4
  refine al fun K10 hK10=> ?_
  refine ai ?_
  refine ah (az _ cw) ?_
  refine ak (hK10 _ ?_)
  clear hK10;try clear K10
  refine bp ?_
  exact lO rfl rfl
theorem hD:Spec Try.prog 14 (bq [] []) (bc (.v (.bool true)) []):=by
  have nw:Spec Try.prog 18 (bq [.v (.int .i64 2)] []) (bc (cm ⟨[0,0],[]⟩) []):=gS 2 ag
  have w1:Spec Try.prog 7 (bq [cm ⟨[0,0],[]⟩, .v (.int .i64 0), .v (.int .i64 5)] []) (bc (cm ⟨[0,0],[(0,5)]⟩) []):=
    dj ⟨[0,0],[]⟩ ag ag 0 5 ag ag ag
  have w2:Spec Try.prog 7 (bq [cm ⟨[0,0],[(0,5)]⟩, .v (.int .i64 1), .v (.int .i64 6)] []) (bc (cm ⟨[0,0],[(0,5),(1,6)]⟩) []):=
    dj ⟨[0,0],[(0,5)]⟩ ag ag 1 6 ag ag ag
  have w3:Spec Try.prog 7 (bq [cm ⟨[0,0],[(0,5),(1,6)]⟩, .v (.int .i64 0), .v (.int .i64 7)] []) (bc (cm ⟨[0,0],[(0,5),(1,6),(0,7)]⟩) []):=
    dj ⟨[0,0],[(0,5),(1,6)]⟩ ag ag 0 7 ag ag ag
  have ok3:el ⟨[0,0],[(0,5),(1,6),(0,7)]⟩:=by
    intro p hp
    simp at hp
    rcases hp with rfl | rfl | rfl <;> decide
  have vw:Spec Try.prog 12 (bq [cm ⟨[0,0],[(0,5),(1,6),(0,7)]⟩] []) (bc (.sl 2 (bG [7,6])) []):=
    fv ⟨[0,0],[(0,5),(1,6),(0,7)]⟩ ag ag ok3
  have cr:Spec Try.prog 10 (bq [cm ⟨[0,0],[(0,5),(1,6),(0,7)]⟩, .sl 3 (cA [true,false,false])] []) (bc (cm ⟨[5,0],[]⟩) []):=
    eZ ⟨[0,0],[(0,5),(1,6),(0,7)]⟩ ag ag ok3 [true,false,false] ag
  refine Spec.ofN Try.func14 rfl Try.ntmps14 rfl ?_
  refine al fun K1 hK1=> ?_
  refine ai ?_
  refine ah (az _ cw) ?_
  refine ak (hK1 _ ?_)
  clear hK1;try clear K1
  refine al fun K2 hK2=> ?_
  refine ai ?_
  refine ah (aX aa (by repeat' (first | exact aJ | refine aG ?_ ?_ | exact Lv.v | exact bd ab | exact Lv.sl | exact Lv.fp | exact Lv.nil | refine Lv.agg rfl ?_ | refine Lv.fn rfl ?_ rfl ?_ | exact ap | refine aj ?_ ?_ | exact Lv.z0)) (nw) rfl rfl) ?_
  refine ah (aX aa (by repeat' (first | exact aJ | refine aG ?_ ?_ | exact Lv.v | exact bd ab | exact Lv.sl | exact Lv.fp | exact Lv.nil | refine Lv.agg rfl ?_ | refine Lv.fn rfl ?_ rfl ?_ | exact ap | refine aj ?_ ?_ | exact Lv.z0)) (w1) rfl rfl) ?_
  refine ah (aX aa (by repeat' (first | exact aJ | refine aG ?_ ?_ | exact Lv.v | exact bd ab | exact Lv.sl | exact Lv.fp | exact Lv.nil | refine Lv.agg rfl ?_ | refine Lv.fn rfl ?_ rfl ?_ | exact ap | refine aj ?_ ?_ | exact Lv.z0)) (w2) rfl rfl) ?_
  refine ah (aX aa (by repeat' (first | exact aJ | refine aG ?_ ?_ | exact Lv.v | exact bd ab | exact Lv.sl | exact Lv.fp | exact Lv.nil | refine Lv.agg rfl ?_ | refine Lv.fn rfl ?_ rfl ?_ | exact ap | refine aj ?_ ?_ | exact Lv.z0)) (w3) rfl rfl) ?_
  refine ah (aP (1,0) aa rfl rfl) ?_
  refine ah (aM _ _ aa rfl rfl rfl rfl (Nat.le_of_ble_eq_true rfl) rfl) ?_
  refine ak (hK2 _ ?_)
  clear hK2;try clear K2
  refine al fun K3 hK3=> ?_
  refine ai ?_
  first
    | refine ah (aE _ aa rfl rfl rfl rfl) ?_
    | refine ah (aD _ aa rfl rfl (by first | rfl | assumption | exact aS _ _ ab) rfl) ?_
    | refine ah (aA _ aa rfl (by first | rfl | assumption | exact aS _ _ ab) rfl) ?_
  refine ah (aX aa (by repeat' (first | exact aJ | refine aG ?_ ?_ | exact Lv.v | exact bd ab | exact Lv.sl | exact Lv.fp | exact Lv.nil | refine Lv.agg rfl ?_ | refine Lv.fn rfl ?_ rfl ?_ | exact ap | refine aj ?_ ?_ | exact Lv.z0)) (vw) rfl rfl) ?_
  refine ah (bO _ _ aa rfl ae (by first | (simp <;> rfl) | (simp;exact ⟨rfl,rfl⟩) | (simp;exact ⟨rfl,rfl,rfl⟩)) ag rfl) ?_
  refine ah (aX aa (by repeat' (first | exact aJ | refine aG ?_ ?_ | exact Lv.v | exact bd ab | exact Lv.sl | exact Lv.fp | exact Lv.nil | refine Lv.agg rfl ?_ | refine Lv.fn rfl ?_ rfl ?_ | exact ap | refine aj ?_ ?_ | exact Lv.z0)) (ik [7,6] ag) rfl rfl) ?_
  refine ah (am _ cw) ?_
  first
    | refine aI rfl rfl (aE _ aa rfl rfl rfl rfl) ?_
    | refine aI rfl rfl (aD _ aa rfl rfl (by first | rfl | assumption | exact aS _ _ ab) rfl) ?_
    | refine aI rfl rfl (aA _ aa rfl (by first | rfl | assumption | exact aS _ _ ab) rfl) ?_
  refine aI rfl rfl (bO _ _ aa rfl ae (by first | (simp <;> rfl) | (simp;exact ⟨rfl,rfl⟩) | (simp;exact ⟨rfl,rfl,rfl⟩)) ag rfl) ?_
  refine aI rfl rfl (aX aa (by repeat' (first | exact aJ | refine aG ?_ ?_ | exact Lv.v | exact bd ab | exact Lv.sl | exact Lv.fp | exact Lv.nil | refine Lv.agg rfl ?_ | refine Lv.fn rfl ?_ rfl ?_ | exact ap | refine aj ?_ ?_ | exact Lv.z0)) (cr) rfl rfl) ?_
  first
    | refine aI rfl rfl (cS _ aa rfl dt) ?_
    | refine aI rfl rfl (cS _ aa rfl dB) ?_
    | refine aI rfl rfl (cS _ aa rfl kw) ?_
    | refine aI rfl rfl (cS _ aa rfl (rfl:_=some (AV.z))) ?_
    | refine aI rfl rfl (ie _ aa rfl rfl rfl) ?_
  refine aI rfl rfl (bO _ _ aa rfl ae (by first | (simp <;> rfl) | (simp;exact ⟨rfl,rfl⟩) | (simp;exact ⟨rfl,rfl,rfl⟩)) ag rfl) ?_
  refine aI rfl rfl (aX aa (by repeat' (first | exact aJ | refine aG ?_ ?_ | exact Lv.v | exact bd ab | exact Lv.sl | exact Lv.fp | exact Lv.nil | refine Lv.agg rfl ?_ | refine Lv.fn rfl ?_ rfl ?_ | exact ap | refine aj ?_ ?_ | exact Lv.z0)) (ik [5,0] ag) rfl rfl) ?_
  refine ah (bu _ _ _ rfl cw) ?_
  refine ah (az _ cw) ?_
  refine ak (hK3 _ ?_)
  clear hK3;try clear K3
  refine bp ?_
  exact lO rfl rfl
end Go.Proofs.Ytmjnackchaahbaa
