/- part 6 -/
import Derived.Test.YtmjnackchaahbaaDoZ5
set_option linter.unusedSimpArgs false
set_option linter.unusedVariables false
namespace Go.Proofs.Ytmjnackchaahbaa

instance np:Bld Try.prog 24 [.slice none 0 0, .slice none 0 0] (fun i=> ([(0,1),(1,1)]:List (Nat×Nat))[i]?):=Bld.struct (bytes:=48) (.agg #[.slice none 0 0, .slice none 0 0]) [(0,1),(1,1)] Try.underlying24 ac rfl oC (fun w=> by kernel_rfl)
instance oV:Bld Try.prog 25 [.slice none 0 0, .slice none 0 0] (fun i=> ([(0,1),(1,1)]:List (Nat×Nat))[i]?):=Bld.struct (bytes:=48) (.agg #[.slice none 0 0, .slice none 0 0]) [(0,1),(1,1)] Try.underlying25 ac rfl oC (fun w=> by kernel_rfl)
instance oB:Bld Try.prog 34 [.int .i64 0, .int .i64 0] (fun i=> ([(0,1),(1,1)]:List (Nat×Nat))[i]?):=Bld.struct (bytes:=16) (.agg #[.int .i64 0, .int .i64 0]) [(0,1),(1,1)] Try.underlying34 ac rfl oC (fun w=> by kernel_rfl)
instance pa:Bld Try.prog 35 [.int .i64 0, .int .i64 0] (fun i=> ([(0,1),(1,1)]:List (Nat×Nat))[i]?):=Bld.struct (bytes:=16) (.agg #[.int .i64 0, .int .i64 0]) [(0,1),(1,1)] Try.underlying35 ac rfl oC (fun w=> by kernel_rfl)
instance oO:Bld Try.prog 41 mY (fun i=> some (i*1,1)):=Bld.array (bytes:=320) (.agg (mY).toArray) Try.underlying41 ac rfl oC ac
instance oM:Bld Try.prog 42 lg (fun i=> ([(0,1),(1,40),(41,1),(42,1)]:List (Nat×Nat))[i]?):=Bld.struct (bytes:=360) (.agg (lg).toArray) [(0,1),(1,40),(41,1),(42,1)] Try.underlying42 ac rfl oC (fun w=> by kernel_rfl)
instance nA:Bld Try.prog 43 lg (fun i=> ([(0,1),(1,40),(41,1),(42,1)]:List (Nat×Nat))[i]?):=Bld.struct (bytes:=360) (.agg (lg).toArray) [(0,1),(1,40),(41,1),(42,1)] Try.underlying43 ac rfl oC (fun w=> by kernel_rfl)
instance nq:Bld Try.prog 45 nh (fun i=> some (i*1,1)):=Bld.array (bytes:=72) (.agg (nh).toArray) Try.underlying45 ac rfl oC ac
instance nX:Bld Try.prog 47 ld (fun i=> ([(0,1),(1,1),(2,1),(3,1),(4,1)]:List (Nat×Nat))[i]?):=Bld.struct (bytes:=88) (.agg (ld).toArray) [(0,1),(1,1),(2,1),(3,1),(4,1)] Try.underlying47 ac rfl oC (fun w=> by kernel_rfl)
instance ox:Bld Try.prog 48 ld (fun i=> ([(0,1),(1,1),(2,1),(3,1),(4,1)]:List (Nat×Nat))[i]?):=Bld.struct (bytes:=88) (.agg (ld).toArray) [(0,1),(1,1),(2,1),(3,1),(4,1)] Try.underlying48 ac rfl oC (fun w=> by kernel_rfl)
instance nT:Bld Try.prog 50 lf (fun i=> ([(0,1),(1,9)]:List (Nat×Nat))[i]?):=Bld.struct (bytes:=96) (.agg (lf).toArray) [(0,1),(1,9)] Try.underlying50 ac rfl oC (fun w=> by kernel_rfl)
instance og:Bld Try.prog 51 lf (fun i=> ([(0,1),(1,9)]:List (Nat×Nat))[i]?):=Bld.struct (bytes:=96) (.agg (lf).toArray) [(0,1),(1,9)] Try.underlying51 ac rfl oC (fun w=> by kernel_rfl)
instance ou:Bld Try.prog 53 lC (fun i=> ([(0,1),(1,1),(2,1),(3,1),(4,1)]:List (Nat×Nat))[i]?):=Bld.struct (bytes:=40) (.agg (lC).toArray) [(0,1),(1,1),(2,1),(3,1),(4,1)] Try.underlying53 ac rfl oC (fun w=> by kernel_rfl)
instance pi:Bld Try.prog 54 lC (fun i=> ([(0,1),(1,1),(2,1),(3,1),(4,1)]:List (Nat×Nat))[i]?):=Bld.struct (bytes:=40) (.agg (lC).toArray) [(0,1),(1,1),(2,1),(3,1),(4,1)] Try.underlying54 ac rfl oC (fun w=> by kernel_rfl)
instance nJ:Bld Try.prog 60 kk (fun i=> ([(0,1),(1,1),(2,1),(3,1)]:List (Nat×Nat))[i]?):=Bld.struct (bytes:=48) (.agg (kk).toArray) [(0,1),(1,1),(2,1),(3,1)] Try.underlying60 ac rfl oC (fun w=> by kernel_rfl)
instance ow:Bld Try.prog 61 kk (fun i=> ([(0,1),(1,1),(2,1),(3,1)]:List (Nat×Nat))[i]?):=Bld.struct (bytes:=48) (.agg (kk).toArray) [(0,1),(1,1),(2,1),(3,1)] Try.underlying61 ac rfl oC (fun w=> by kernel_rfl)
instance nu:Bld Try.prog 63 [.int .i64 0, .int .i64 0] (fun i=> ([(0,1),(1,1)]:List (Nat×Nat))[i]?):=Bld.struct (bytes:=16) (.agg #[.int .i64 0, .int .i64 0]) [(0,1),(1,1)] Try.underlying63 ac rfl oC (fun w=> by kernel_rfl)
instance pe:Bld Try.prog 64 [.int .i64 0, .int .i64 0] (fun i=> ([(0,1),(1,1)]:List (Nat×Nat))[i]?):=Bld.struct (bytes:=16) (.agg #[.int .i64 0, .int .i64 0]) [(0,1),(1,1)] Try.underlying64 ac rfl oC (fun w=> by kernel_rfl)
instance pc:Bld Try.prog 67 lc (fun i=> ([(0,43),(43,10),(53,1),(54,5),(59,1),(60,1),(61,1),(62,1),(63,1)]:List (Nat×Nat))[i]?):=Bld.struct (bytes:=608) (.agg (lc).toArray) [(0,43),(43,10),(53,1),(54,5),(59,1),(60,1),(61,1),(62,1),(63,1)] Try.underlying67 ac rfl oC (fun w=> by kernel_rfl)
instance nN:Bld Try.prog 68 lc (fun i=> ([(0,43),(43,10),(53,1),(54,5),(59,1),(60,1),(61,1),(62,1),(63,1)]:List (Nat×Nat))[i]?):=Bld.struct (bytes:=608) (.agg (lc).toArray) [(0,43),(43,10),(53,1),(54,5),(59,1),(60,1),(61,1),(62,1),(63,1)] Try.underlying68 ac rfl oC (fun w=> by kernel_rfl)
instance ph:Bld Try.prog 70 mZ (fun i=> some (i*1,1)):=Bld.array (bytes:=192) (.agg (mZ).toArray) Try.underlying70 ac rfl oC ac
instance nl:Bld Try.prog 73 [] (fun i=> ([]:List (Nat×Nat))[i]?):=Bld.struct (bytes:=0) (.agg #[]) [] Try.underlying73 ac rfl oC (fun w=> by kernel_rfl)
instance ni:Bld Try.prog 124 mW (fun i=> ([(0,1),(1,1),(2,1),(3,1),(4,1),(5,1),(6,1),(7,1),(8,1),(9,1),(10,1)]:List (Nat×Nat))[i]?):=Bld.struct (bytes:=48) (.agg (mW).toArray) [(0,1),(1,1),(2,1),(3,1),(4,1),(5,1),(6,1),(7,1),(8,1),(9,1),(10,1)] Try.underlying124 ac rfl oC (fun w=> by kernel_rfl)
instance pj:Arr Try.prog 41 40 1:=Arr.of Try.underlying41 ac
instance oo:Arr Try.prog 45 9 1:=Arr.of Try.underlying45 ac
instance nM:Arr Try.prog 70 24 1:=Arr.of Try.underlying70 ac
instance na:Arr Try.prog 115 0 1:=Arr.of Try.underlying115 ac
theorem hU {α β:Type} (f:α→List β) (c:Nat) (hf: ∀ a,(f a).length=c): ∀ l:List α,(l.flatMap f).length=l.length*c
  | []=> by simp
  | a::l=> by rw [List.flatMap_cons,List.length_append,hf,hU f c hf l,List.length_cons,Nat.succ_mul];omega
theorem gu {α β:Type} (f:α→List β) (c:Nat) (hf: ∀ a,(f a).length=c): ∀ (l:List α) (k:Nat),(l.flatMap f).drop (k*c)=(l.drop k).flatMap f
  | l,0=> by simp
  | [],k+1=> by simp
  | a::l,k+1=> by
    rw [List.flatMap_cons,List.drop_succ_cons,← gu f c hf l k,List.drop_append,List.drop_eq_nil_of_le (by rw [hf,Nat.succ_mul];omega),List.nil_append,hf]
    congr 1;rw [Nat.succ_mul];omega
theorem jb {α β:Type} (f:α→List β) (c:Nat) (hf: ∀ a,(f a).length=c) (l:List α) (k:Nat) (h:k < l.length):((l.flatMap f).drop (k*c)).take c=f l[k]:=by
  rw [gu f c hf,List.drop_eq_getElem_cons h,List.flatMap_cons,List.take_append_of_le_length (by rw [hf];exact Nat.le_refl _),List.take_of_length_le (by rw [hf];exact Nat.le_refl _)]
theorem kL {α β:Type} (f:α→List β) (c:Nat) (hf: ∀ a,(f a).length=c) (l:List α) (k j:Nat) (h:k < l.length) (hj:j < c):(l.flatMap f)[k*c+j]? =(f l[k])[j]? :=by
  rw [← jb f c hf l k h,List.getElem?_take_of_lt hj,List.getElem?_drop]
theorem jc {α β:Type} (f:α→List β) (c:Nat) (hf: ∀ a,(f a).length=c): ∀ (l:List α) (k:Nat),(l.flatMap f).take (k*c)=(l.take k).flatMap f
  | l,0=> by simp
  | [],k+1=> by simp
  | a::l,k+1=> by
    rw [List.flatMap_cons,List.take_succ_cons,List.flatMap_cons,← jc f c hf l k,List.take_append,List.take_of_length_le (by rw [hf,Nat.succ_mul];omega),hf]
    congr 2;rw [Nat.succ_mul];omega
theorem ka {α β:Type} (f:α→List β) (l:List α) (a:α):l.flatMap f++f a=(l++[a]).flatMap f:=by simp
structure Dk where
  cells:List Int
  pend:List (Int×Int):=[]
def dZ (c:List Int) (l:List (Int×Int)):List Int:=l.foldl (fun c w=> c.set w.1.toNat w.2) c
@[simp] theorem bF (l:List (Int×Int)): ∀ (c:List Int),(dZ c l).length=c.length:=by
  induction l with
  | nil=> intro c;rfl
  | cons w l ih=> intro c;show (dZ (c.set _ _) l).length=_;rw [ih,List.length_set]
theorem iB (c:List Int) (l m:List (Int×Int)):dZ c (l++m)=dZ (dZ c l) m:=by simp [dZ,List.foldl_append]
def Dk.view (d:Dk):List Int:=dZ d.cells d.pend
def Dk.write (d:Dk) (c v:Int):Dk:=
  if c < 0∨(d.cells.length:Int)≤c then d
  else if 4 < d.pend.length+1 then ⟨dZ d.cells ((d.pend++[(c,v)]).take 1),(d.pend++[(c,v)]).drop 1⟩
  else ⟨d.cells,d.pend++[(c,v)]⟩
def Dk.sync (d:Dk):Dk:=⟨d.view,[]⟩
def kept:List (Int×Int)→List Bool→List (Int×Int)
  | w::l,true::k=> w::kept l k
  | _::l,false::k=> kept l k
  | _,_=> []
def Dk.crash (d:Dk) (k:List Bool):Dk:=⟨dZ d.cells (kept d.pend k),[]⟩
def Dk.resize (d:Dk) (n:Nat):Dk:=⟨(d.view++List.replicate n 0).take n,[]⟩
theorem fJ: ∀ {l:List (Int×Int)} {k:List Bool} {w:Int×Int},w∈kept l k→w∈l
  | [],[],_,h=> by simp [kept] at h
  | [],_::_,_,h=> by simp [kept] at h
  | _::_,[],_,h=> by simp [kept] at h
  | x::l,true::k,w,h=> by
    simp only [kept,List.mem_cons] at h ⊢
    exact h.imp id fun h=> fJ h
  | x::l,false::k,w,h=> by
    simp only [kept] at h
    exact List.mem_cons_of_mem _ (fJ h)
structure DkG (d:Dk):Prop where
  n:d.cells.length≤16
  m:d.pend.length≤4
  ok: ∀ w∈d.pend,0≤w.1∧w.1 < (d.cells.length:Int)
def cc (n m:Int):Int:=(if n < 0 then -(n+1) else n) % m
theorem eb (n m:Int) (h:0 < m):0≤cc n m:=Int.emod_nonneg _ ab
theorem dW (n m:Int) (h:0 < m):cc n m < m:=Int.emod_lt_of_pos _ h
theorem dk (n m:Int) (hm:1≤m) (h1:m≤4611686018427387904) (h2: -9223372036854775808≤n) (h3:n≤9223372036854775807):
    Spec Try.prog 8 (bq [.v (.int .i64 n), .v (.int .i64 m)] []) (bc (.v (.int .i64 (cc n m))) []):=by
  refine Spec.ofN Try.func8 rfl Try.ntmps8 rfl ?_
  refine al fun K1 hK1=> ?_
  refine ai ?_
  refine ah (az _ aR) ?_
  refine ak (hK1 _ ?_)
  clear hK1;try clear K1
  refine al fun K2 hK2=> ?_
  refine al fun K3 hK3=> ?_
  refine ai ?_
  refine ah (am _ aR) ?_
  first
    | refine ah (aL _ _ rfl rfl (by assumption)) ?_
    | refine ah (aL _ _ rfl rfl rfl) ?_
  refine ak (hK3 _ ?_)
  clear hK3;try clear K3
  refine aY rfl (fun hc6=> ?_) (fun hc6=> ?_)
  · skip
    refine ai ?_
    refine ah (am _ aR) ?_
    first
      | refine ah (aK _ _ rfl rfl (bQ ab)) ?_
      | refine ah (aK _ _ rfl rfl rfl) ?_
    first
      | refine ah (jl _ rfl (bQ ab)) ?_
      | refine ah (jl _ rfl rfl) ?_
    refine ah (az _ aR) ?_
    refine ak (hK2 _ ?_)
    clear hK2;try clear K2
    refine al fun K4 hK4=> ?_
    refine ai ?_
    refine ah (am _ aR) ?_
    refine ah (am _ aR) ?_
    first
      | refine ah (ba _ _ rfl rfl ab (Int.tmod_eq_emod_of_nonneg ab)) ?_
      | refine ah (ba _ _ rfl rfl ab rfl) ?_
    refine ah (az _ aR) ?_
    refine ak (hK4 _ ?_)
    clear hK4;try clear K4
    refine bp ?_
    refine nc rfl rfl ?_
    unfold cc
    first | rw [if_pos hc6] | rw [if_neg ab]
  refine aT (hK2 _ ?_)
  clear hK2;try clear K2
  refine al fun K5 hK5=> ?_
  refine ai ?_
  refine ah (am _ aR) ?_
  refine ah (am _ aR) ?_
  first
    | refine ah (ba _ _ rfl rfl ab (Int.tmod_eq_emod_of_nonneg ab)) ?_
    | refine ah (ba _ _ rfl rfl ab rfl) ?_
  refine ah (az _ aR) ?_
  refine ak (hK5 _ ?_)
  clear hK5;try clear K5
  refine bp ?_
  refine nc rfl rfl ?_
  unfold cc
  first | rw [if_pos hc6] | rw [if_neg ab]

theorem iM (n m:Nat) (xs ys:List Int) (hn:xs.length=n) (hm:ys.length=m) (h1:n≤4611686018427387904) (h2:m≤4611686018427387904):
    Spec Try.prog 19 (bq [.sl n (bG xs), .sl m (bG ys)] []) (bc (.v (.bool (decide (xs=ys)))) []):=by
  subst hn;subst hm
  refine Spec.ofN Try.func19 rfl Try.ntmps19 rfl ?_
  refine al fun K1 hK1=> ?_
  refine ai ?_
  refine ah (az _ cw) ?_
  refine ak (hK1 _ ?_)
  clear hK1;try clear K1
  refine al fun K2 hK2=> ?_
  refine al fun K3 hK3=> ?_
  refine ai ?_
  first
    | refine ah (am _ dz) ?_
    | refine ah (am _ bV) ?_
    | refine ah (am _ iU) ?_
    | refine ah (am _ (rfl:_=AV.z)) ?_
  first
    | refine ah (bl _ aa rfl) ?_
    | refine ah (bt _ aa rfl rfl) ?_
    | refine ah (dS _ aa rfl) ?_
    | refine ah (bs _ aa rfl rfl) ?_
    | refine ah (op_lenZ _ aa rfl) ?_
  first
    | refine ah (am _ dz) ?_
    | refine ah (am _ bV) ?_
    | refine ah (am _ iU) ?_
    | refine ah (am _ (rfl:_=AV.z)) ?_
  first
    | refine ah (bl _ aa rfl) ?_
    | refine ah (bt _ aa rfl rfl) ?_
    | refine ah (dS _ aa rfl) ?_
    | refine ah (bs _ aa rfl rfl) ?_
    | refine ah (op_lenZ _ aa rfl) ?_
  first
    | refine ah (fM _ _ rfl rfl (by assumption)) ?_
    | refine ah (fM _ _ rfl rfl rfl) ?_
  refine ak (hK3 _ ?_)
  clear hK3;try clear K3
  refine aY rfl (fun hc10=> ?_) (fun hc10=> ?_)
  · skip
    refine al fun K4 hK4=> ?_
    refine ai ?_
    refine ah (az _ cw) ?_
    refine ak (hK4 _ ?_)
    clear hK4;try clear K4
    refine bp ?_
    refine lG rfl rfl ?_
    exact decide_eq_false fun h=> by subst h;omega
  refine aT (hK2 _ ?_)
  clear hK2;try clear K2
  refine al fun K5 hK5=> ?_
  refine al fun K6 hK6=> ?_
  refine ai ?_
  refine ah (az _ aR) ?_
  refine ak (hK6 _ ?_)
  clear hK6;try clear K6
  refine aN ?_
  refine bn (α:=Nat) (fun k=> k≤xs.length∧xs.length=ys.length∧xs.take k=ys.take k) 26 [(0,_),(1,_)] [] (fun k=> [(5, .v (.int .i64 (k:Int)))]) (fun k=> []) [] [] (fun k=> xs.length - k) 0 ?_ (by
    refine Le.mkJ [] [] rfl ?_ ?_ trivial trivial ?_
    · exact ⟨(by first | exact iS rfl | exact iR rfl | exact iV rfl | exact iZ rfl | exact iD rfl),(by first | exact iS rfl | exact iR rfl | exact iV rfl | exact iZ rfl | exact iD rfl),(bd (by first | rfl | omega | (simp;done) | (simp;omega) | assumption)),trivial⟩
    · exact trivial
    kernel_rfl) ?_
  · exact ⟨by omega,by omega,rfl⟩
  intro k hk
  obtain ⟨hk,hl,ht⟩:=hk
  refine al fun K7 hK7=> ?_
  refine al fun K8 hK8=> ?_
  refine ai ?_
  refine ah (am _ aR) ?_
  first
    | refine ah (am _ dz) ?_
    | refine ah (am _ bV) ?_
    | refine ah (am _ iU) ?_
    | refine ah (am _ (rfl:_=AV.z)) ?_
  first
    | refine ah (bl _ aa rfl) ?_
    | refine ah (bt _ aa rfl rfl) ?_
    | refine ah (dS _ aa rfl) ?_
    | refine ah (bs _ aa rfl rfl) ?_
    | refine ah (op_lenZ _ aa rfl) ?_
  first
    | refine ah (aL _ _ rfl rfl (by assumption)) ?_
    | refine ah (aL _ _ rfl rfl rfl) ?_
  refine ak (hK8 _ ?_)
  clear hK8;try clear K8
  refine aY rfl (fun hc14=> ?_) (fun hc14=> ?_)
  · skip
    have hkx:k < xs.length:=by omega
    have hky:k < ys.length:=by omega
    refine aT (hK7 _ ?_)
    clear hK7;try clear K7
    refine al fun K9 hK9=> ?_
    refine aN ?_
    refine al fun K10 hK10=> ?_
    refine bz (σ':=bi 26 [(0,_),(1,_),(5,_)] [] [] []) (by
      refine Le.mkJ [] [] rfl ?_ ?_ trivial trivial ?_
      · exact ⟨(by first | exact iS rfl | exact iR rfl | exact iV rfl | exact iZ rfl | exact iD rfl),(by first | exact iS rfl | exact iR rfl | exact iV rfl | exact iZ rfl | exact iD rfl),(iV rfl),trivial⟩
      · exact trivial
      kernel_rfl) ?_
    refine dq 9 [17,18,19,20,21,22,23,24,25] [] ac ac rfl (be rfl) (rfl:_=[_,_,_,_,_,_,_,_,_]) (rfl:_=[]) ?_
    first
      | refine ax (_,[]) (fun τ=> am _ dz) ?_
      | refine ax (_,[]) (fun τ=> am _ bV) ?_
      | refine ax (_,[]) (fun τ=> am _ iU) ?_
      | refine ax (_,[]) (fun τ=> am _ (rfl:_=AV.z)) ?_
    refine aO (rfl:_=[_]) ?_
    refine ax (_,[]) (fun τ=> am _ aR) ?_
    refine aO (rfl:_=[_,_]) ?_
    first
      | refine ax (_,[]) (fun τ=> bB _ _ aa rfl rfl _ rfl ab (by first | assumption | decide | (simp only [aF,aV,bm];omega) | (simp;done) | (simp;omega) | (simp [bG,cA];omega)) (by first | exact Nat.mul_one _ | rfl | omega)) ?_
      | refine ax (_,[]) (fun τ=> bB _ _ aa rfl rfl (Int.toNat _) (Int.toNat_of_nonneg ab).symm ab (by first | assumption | decide | (simp only [aF,aV,bm];omega) | (simp;done) | (simp;omega) | (simp [bG,cA];omega)) (by first | exact Nat.mul_one _ | rfl | omega)) ?_
      | refine ax (_,[]) (fun τ=> br _ _ aa rfl rfl rfl _ rfl ab (by first | exact (Nat.zero_add _).trans (Nat.mul_one _) | exact Nat.zero_add _ | rfl | omega)) ?_
      | refine ax (_,[]) (fun τ=> br _ _ aa rfl rfl rfl (Int.toNat _) (Int.toNat_of_nonneg ab).symm ab (by first | exact (Nat.zero_add _).trans (Nat.mul_one _) | exact Nat.zero_add _ | rfl | omega)) ?_
      | refine ax (_,[]) (fun τ=> bN _ _ aa rfl rfl rfl _ rfl ab (by first | exact (Nat.zero_add _).trans (Nat.mul_one _) | exact Nat.zero_add _ | rfl | omega)) ?_
      | refine ax (_,[]) (fun τ=> bN _ _ aa rfl rfl rfl (Int.toNat _) (Int.toNat_of_nonneg ab).symm ab (by first | exact (Nat.zero_add _).trans (Nat.mul_one _) | exact Nat.zero_add _ | rfl | omega)) ?_
    refine aO (rfl:_=[_,_,_]) ?_
    first
      | refine ax (_,[]) (fun τ=> aB _ aa rfl rfl iT) ?_
      | refine ax (_,[]) (fun τ=> aH _ aa rfl rfl (by first | rfl | exact an _ _ ab | exact ar _ _ ab | assumption) rfl) ?_
      | refine ax (_,[]) (fun τ=> ei _ aa rfl (by first | rfl | exact an _ _ ab | exact ar _ _ ab | assumption) rfl) ?_
    refine aO (rfl:_=[_,_,_,_]) ?_
    first
      | refine ax (_,[]) (fun τ=> am _ dz) ?_
      | refine ax (_,[]) (fun τ=> am _ bV) ?_
      | refine ax (_,[]) (fun τ=> am _ iU) ?_
      | refine ax (_,[]) (fun τ=> am _ (rfl:_=AV.z)) ?_
    refine aO (rfl:_=[_,_,_,_,_]) ?_
    refine ax (_,[]) (fun τ=> am _ aR) ?_
    refine aO (rfl:_=[_,_,_,_,_,_]) ?_
    first
      | refine ax (_,[]) (fun τ=> bB _ _ aa rfl rfl _ rfl ab (by first | assumption | decide | (simp only [aF,aV,bm];omega) | (simp;done) | (simp;omega) | (simp [bG,cA];omega)) (by first | exact Nat.mul_one _ | rfl | omega)) ?_
      | refine ax (_,[]) (fun τ=> bB _ _ aa rfl rfl (Int.toNat _) (Int.toNat_of_nonneg ab).symm ab (by first | assumption | decide | (simp only [aF,aV,bm];omega) | (simp;done) | (simp;omega) | (simp [bG,cA];omega)) (by first | exact Nat.mul_one _ | rfl | omega)) ?_
      | refine ax (_,[]) (fun τ=> br _ _ aa rfl rfl rfl _ rfl ab (by first | exact (Nat.zero_add _).trans (Nat.mul_one _) | exact Nat.zero_add _ | rfl | omega)) ?_
      | refine ax (_,[]) (fun τ=> br _ _ aa rfl rfl rfl (Int.toNat _) (Int.toNat_of_nonneg ab).symm ab (by first | exact (Nat.zero_add _).trans (Nat.mul_one _) | exact Nat.zero_add _ | rfl | omega)) ?_
      | refine ax (_,[]) (fun τ=> bN _ _ aa rfl rfl rfl _ rfl ab (by first | exact (Nat.zero_add _).trans (Nat.mul_one _) | exact Nat.zero_add _ | rfl | omega)) ?_
      | refine ax (_,[]) (fun τ=> bN _ _ aa rfl rfl rfl (Int.toNat _) (Int.toNat_of_nonneg ab).symm ab (by first | exact (Nat.zero_add _).trans (Nat.mul_one _) | exact Nat.zero_add _ | rfl | omega)) ?_
    refine aO (rfl:_=[_,_,_,_,_,_,_]) ?_
    first
      | refine ax (_,[]) (fun τ=> aB _ aa rfl rfl iT) ?_
      | refine ax (_,[]) (fun τ=> aH _ aa rfl rfl (by first | rfl | exact an _ _ ab | exact ar _ _ ab | assumption) rfl) ?_
      | refine ax (_,[]) (fun τ=> ei _ aa rfl (by first | rfl | exact an _ _ ab | exact ar _ _ ab | assumption) rfl) ?_
    refine aO (rfl:_=[_,_,_,_,_,_,_,_]) ?_
    first
      | refine ax (_,[]) (fun τ=> fM _ _ rfl rfl (by assumption)) ?_
      | refine ax (_,[]) (fun τ=> fM _ _ rfl rfl rfl) ?_
    refine aO (rfl:_=[_,_,_,_,_,_,_,_,_]) ?_
    refine cJ ⟨rfl,?_⟩
    refine ak (hK10 _ ?_)
    clear hK10;try clear K10
    refine aY rfl (fun hc25=> ?_) (fun hc25=> ?_)
    · skip
      refine al fun K11 hK11=> ?_
      refine ai ?_
      refine ah (az _ cw) ?_
      refine ak (hK11 _ ?_)
      clear hK11;try clear K11
      refine bp ?_
      refine lG rfl rfl ?_
      exact decide_eq_false fun h=> by subst h;exact hc25 rfl
    refine aT (hK9 _ ?_)
    clear hK9;try clear K9
    refine ai ?_
    refine ah (am _ aR) ?_
    first
      | refine ah (aK _ _ rfl rfl (bQ ab)) ?_
      | refine ah (aK _ _ rfl rfl rfl) ?_
    refine ah (az _ aR) ?_
    refine ak ?_
    refine ⟨k+1,?_,?_,?_⟩
    · refine ⟨by omega,hl,?_⟩
      rw [ea _ _ _ hkx,ea _ _ _ hky] at hc25
      rw [List.take_succ_eq_append_getElem hkx,List.take_succ_eq_append_getElem hky,ht,hc25]
    · skip
      refine Le.mkJ [] [] rfl ?_ ?_ trivial trivial ?_
      · exact ⟨(by first | exact iS rfl | exact iR rfl | exact iV rfl | exact iZ rfl | exact iD rfl),(by first | exact iS rfl | exact iR rfl | exact iV rfl | exact iZ rfl | exact iD rfl),(bd (by first | rfl | omega | (simp;done) | (simp;omega) | assumption)),trivial⟩
      · exact trivial
      kernel_rfl
    omega
  refine bv ?_
  refine id (hK5 _ ?_)
  clear hK5;try clear K5
  refine al fun K12 hK12=> ?_
  refine ai ?_
  refine ah (az _ cw) ?_
  refine ak (hK12 _ ?_)
  clear hK12;try clear K12
  refine bp ?_
  refine lG rfl rfl ?_
  rw [List.take_of_length_le ab,List.take_of_length_le ab] at ht
  exact decide_eq_true ht

def gX (w:Int×Int):List PV:=[.v (.int .i64 w.1), .v (.int .i64 w.2)]
def cN (l:List (Int×Int)):List PV:=l.flatMap gX
theorem aU (l:List (Int×Int)):(cN l).length=l.length*2:=hU gX 2 (fun _=> rfl) l
theorem bM (l:List (Int×Int)) (k:Nat) (h:k < l.length):PV.ups (((cN l).drop (k*2)).take 2)=[.v (.int .i64 (l.getD k (0,0)).1), .v (.int .i64 (l.getD k (0,0)).2)]:=by
  have e:l.getD k (0,0)=l[k]:=by rw [List.getD_eq_getElem?_getD,List.getElem?_eq_getElem h];rfl
  rw [e,show ((cN l).drop (k*2)).take 2=gX l[k] from jb gX 2 (fun _=> rfl) l k h];rfl
theorem dw (l:List (Int×Int)) (x:Int×Int):cN l++gX x=cN (l++[x]):=ka gX l x
theorem en (l:List (Int×Int)):(cN l).take (l.length*2)=cN l:=List.take_of_length_le (by rw [aU];exact Nat.le_refl _)
theorem gD (c:List Int) (l:List (Int×Int)) {k:Nat} (h:k < l.length):dZ c (l.take (k+1))=(dZ c (l.take k)).set (l.getD k (0,0)).1.toNat (l.getD k (0,0)).2:=by
  have e:l.take (k+1)=l.take k++[l.getD k (0,0)]:=by
    rw [List.take_add_one,List.getElem?_eq_getElem h,List.getD_eq_getElem?_getD,List.getElem?_eq_getElem h];rfl
  rw [e,iB];rfl
abbrev oT (d:Dk):List AV:=[.sl d.cells.length (bG d.cells), .sl d.pend.length (cN d.pend)]
abbrev cm (d:Dk):AV:= .agg (oT d)
theorem iO {ρ:aq→aq} {σ:St} {F:aq→Bool} {id:aq} {e:TypeId} {n m:Nat} {l r:List Int} (hid:σ.ob id= .obj (.row e 1 (bG l))) (hF:F id=true) (hm:n=m) (hl:l=r) (hn:m=r.length:=by (first | rfl | omega | simp_all)):Lv ρ σ F (.sl m (bG r)) (.ref id 0 n):=by
  subst hm;subst hl
  exact jI hid hF (by rw [aF,Nat.mul_one];exact hn) rfl
theorem ca (d:Dk) (h1:d.cells.length≤1000000) (h2:d.pend.length≤1000000):
    Spec Try.prog 24 (bq [cm d] []) (bc (.agg [.ref (0,8) 0 d.cells.length, .ref (1,8) 0 d.pend.length]) [((0,8), .row 3 1 (bG d.cells)),((1,8), .row 35 2 (cN d.pend))]):=by
  refine Spec.ofN Try.func24 rfl Try.ntmps24 rfl ?_
  refine al fun K1 hK1=> ?_
  refine ai ?_
  refine ah (bC (1,0) _ rfl rfl) ?_
  refine ah (aP (2,0) aa rfl rfl) ?_
  refine ak (hK1 _ ?_)
  clear hK1;try clear K1
  refine al fun K2 hK2=> ?_
  refine ai ?_
  first
    | refine ah (au _ aa rfl rfl rfl) ?_
    | refine ah (aw _ aa rfl rfl) ?_
  first
    | refine ah (aB _ aa rfl rfl dt) ?_
    | refine ah (aH _ aa rfl rfl (by first | rfl | exact an _ _ ab | exact ar _ _ ab | assumption | exact an _ _ ab) rfl) ?_
  refine ah (bl _ aa rfl) ?_
  first
    | refine ah (gb (7,0) _ _ aa rfl rfl _ rfl rfl ab rfl rfl) ?_
    | refine ah (gb (7,0) _ _ aa rfl rfl (Int.toNat _) (Int.toNat_of_nonneg ab).symm (Int.toNat_of_nonneg ab).symm ab rfl rfl) ?_
  refine ah (bE _ aa rfl (by exact hY)) ?_
  refine ah (aP (3,0) aa rfl rfl) ?_
  refine ah (aM _ _ aa rfl rfl rfl rfl (Nat.le_of_ble_eq_true rfl) rfl) ?_
  refine ak (hK2 _ ?_)
  clear hK2;try clear K2
  refine al fun K3 hK3=> ?_
  refine ai ?_
  first
    | refine ah (au _ aa rfl rfl rfl) ?_
    | refine ah (aw _ aa rfl rfl) ?_
  first
    | refine ah (aB _ aa rfl rfl dB) ?_
    | refine ah (aH _ aa rfl rfl (by first | rfl | exact an _ _ ab | exact ar _ _ ab | assumption | exact an _ _ ab) rfl) ?_
  first
    | refine ah (au _ aa rfl rfl rfl) ?_
    | refine ah (aw _ aa rfl rfl) ?_
  first
    | refine ah (aB _ aa rfl rfl dt) ?_
    | refine ah (aH _ aa rfl rfl (by first | rfl | exact an _ _ ab | exact ar _ _ ab | assumption | exact an _ _ ab) rfl) ?_
  refine ah (kj _ _ aa rfl rfl (by simp [ek]) (.sl (by rw [aF,Nat.mul_one])) rfl rfl) ?_
  refine ak (hK3 _ ?_)
  clear hK3;try clear K3
  refine al fun K4 hK4=> ?_
  refine ai ?_
  first
    | refine ah (au _ aa rfl rfl rfl) ?_
    | refine ah (aw _ aa rfl rfl) ?_
  first
    | refine ah (aB _ aa rfl rfl dt) ?_
    | refine ah (aB _ aa rfl rfl dB) ?_
    | refine ah (aB _ aa rfl rfl kw) ?_
    | refine ah (aB _ aa rfl rfl (rfl:_=some (AV.z))) ?_
    | refine ah (aH _ aa rfl rfl (by first | rfl | exact an _ _ ab | exact ar _ _ ab | assumption | exact an _ _ ab) rfl) ?_
  first
    | refine ah (au _ aa rfl rfl rfl) ?_
    | refine ah (aw _ aa rfl rfl) ?_
  first
    | refine ah (aB _ aa rfl rfl dt) ?_
    | refine ah (aH _ aa rfl rfl (by first | rfl | exact an _ _ ab | exact ar _ _ ab | assumption | exact an _ _ ab) rfl) ?_
  refine ah (kO (18,0) _ _ aa rfl (.sl (by rw [aU])) ab rfl) ?_
  first
    | refine ah (au _ aa rfl rfl rfl) ?_
    | refine ah (aw _ aa rfl rfl) ?_
  refine ah (aM _ _ aa rfl rfl rfl rfl (Nat.le_of_ble_eq_true rfl) rfl) ?_
  refine ak (hK4 _ ?_)
  clear hK4;try clear K4
  refine al fun K5 hK5=> ?_
  refine bz (σ':=bi 21 [(2,_),(3,_)] [((2,0),_),((7,0),_),((3,0),_),((18,0),_)] [] []) (by
    refine Le.mkJ [] [] rfl ?_ ?_ trivial trivial ?_
    · exact ⟨(iP rfl),(iP rfl),trivial⟩
    · exact ⟨(ay rfl rfl rfl),(ay rfl rfl rfl),(ay rfl rfl rfl),(ay rfl rfl rfl),trivial⟩
    kernel_rfl) ?_
  refine ai ?_
  first
    | refine ah (aE _ aa rfl rfl rfl rfl) ?_
    | refine ah (aD _ aa rfl rfl (by first | rfl | assumption) rfl) ?_
    | refine ah (aA _ aa rfl (by first | rfl | assumption) rfl) ?_
  refine ah (aM _ _ aa rfl rfl rfl rfl (Nat.le_of_ble_eq_true rfl) rfl) ?_
  refine ak (hK5 _ ?_)
  clear hK5;try clear K5
  refine bp ?_
  exact bS (.inr rfl) rfl (.cellA aa rfl rfl rfl) (Le.out [((0,8),(7,0)),((1,8),(18,0))] [] (.agg rfl (aj (aC rfl rfl) (aj (aC rfl rfl) ap))) rfl rfl rfl trivial ⟨⟨rfl,⟨_,rfl, .rowE (by rw [List.take_of_length_le (by rw [aF];omega),List.drop_of_length_le (by simp [ek]),List.append_nil])⟩,rfl⟩,⟨rfl,⟨_,rfl, .rowE rfl⟩,rfl⟩,trivial⟩)
theorem cW (c:List Int) (l:List (Int×Int)) (h1:l.length≤1000000) (hc:c.length≤1000000) (ho: ∀ w∈l,0≤w.1∧w.1 < (c.length:Int)):
    Spec Try.prog 25 (cv [.ref (0,9) 0 c.length, .sl l.length (cN l)] [((0,9), .row 3 1 (bG c))]) (bY (.tup []) [((0,9), .row 3 1 (bG (dZ c l)))] [(0,9)] [(0,9)]):=by
  refine Spec.ofNI Try.func25 rfl Try.ntmps25 rfl ?_
  refine al fun K1 hK1=> ?_
  refine ai ?_
  refine ah (am _ dz) ?_
  refine ah (bl _ aa rfl) ?_
  refine ah (am _ aR) ?_
  refine ak (hK1 _ ?_)
  clear hK1;try clear K1
  refine aN ?_
  refine bn (α:=Nat) (fun k=> k≤l.length) 19 [(0,_),(6,_),(7,_)] [] (fun k=> [(8, .v (.int .i64 (k:Int)))]) (fun k=> [((0,9), .row 3 1 (bG (dZ c (l.take k))))]) [(0,9)] [(0,9)] (fun k=> l.length - k) 0 ?_ (by
    refine Le.mkJ [] [] rfl ?_ ?_ trivial ⟨rfl,trivial⟩ ?_
    · exact ⟨(iR rfl),(iS rfl),(iV rfl),(bd (by first | rfl | omega | (simp;done) | (simp;omega) | assumption)),trivial⟩
    · exact ⟨(bJ rfl rfl rfl (by first | rfl | omega | (simp;done) | (simp;omega) | assumption)),trivial⟩
    kernel_rfl) ?_
  · first | omega | trivial | exact ⟨by omega,by omega⟩
  intro k hk
  refine al fun K2 hK2=> ?_
  refine ai ?_
  first
    | refine ah (aL _ _ rfl rfl (by assumption)) ?_
    | refine ah (aL _ _ rfl rfl rfl) ?_
  refine ak (hK2 _ ?_)
  clear hK2;try clear K2
  refine al fun K3 hK3=> ?_
  refine aY rfl (fun hc9=> ?_) (fun hc9=> ?_)
  · skip
    have hia:=bM l k ab
    have hm:l.getD k (0,0)∈l:=by rw [List.getD_eq_getElem?_getD,List.getElem?_eq_getElem ab];exact List.getElem_mem _
    obtain ⟨q1,q2⟩:=ho _ hm
    have q3:=gD c l (k:=k) ab
    generalize l.getD k (0,0)=w at hia q1 q2 q3
    obtain ⟨i,hi⟩:=Int.eq_ofNat_of_zero_le q1
    rw [hi,Int.toNat_natCast] at q3
    have q4:(dZ c (l.take k)).length=c.length:=bF _ _
    refine aT (hK3 _ ?_)
    clear hK3;try clear K3
    refine al fun K4 hK4=> ?_
    refine aN ?_
    refine al fun K5 hK5=> ?_
    refine ai ?_
    first
      | refine ah (bB _ _ aa rfl rfl _ rfl ab (by first | assumption | decide | (simp only [aF,aV,bm,aF,aU];omega) | (simp;done) | (simp;omega) | (simp [bG,cA];omega)) (by first | exact Nat.mul_one _ | rfl | omega)) ?_
      | refine ah (bB _ _ aa rfl rfl (Int.toNat _) (Int.toNat_of_nonneg ab).symm ab (by first | assumption | decide | (simp only [aF,aV,bm,aF,aU];omega) | (simp;done) | (simp;omega) | (simp [bG,cA];omega)) (by first | exact Nat.mul_one _ | rfl | omega)) ?_
    refine ah (aA _ aa rfl (by exact hia) rfl) ?_
    refine ah (aP (5,0) aa rfl rfl) ?_
    refine ah (aM _ _ aa rfl rfl rfl rfl (Nat.le_of_ble_eq_true rfl) rfl) ?_
    refine ak (hK5 _ ?_)
    clear hK5;try clear K5
    refine ai ?_
    refine ah (am _ bV) ?_
    first
      | refine ah (au _ aa rfl rfl rfl) ?_
      | refine ah (aw _ aa rfl rfl) ?_
    first
      | refine ah (aB _ aa rfl rfl iT) ?_
      | refine ah (aH _ aa rfl rfl (by first | rfl | exact an _ _ ab | exact ar _ _ ab | assumption | exact an _ _ ab) rfl) ?_
    first
      | refine ah (au _ aa rfl rfl rfl) ?_
      | refine ah (aw _ aa rfl rfl) ?_
    first
      | refine ah (aB _ aa rfl rfl iT) ?_
      | refine ah (aH _ aa rfl rfl (by first | rfl | exact an _ _ ab | exact ar _ _ ab | assumption | exact an _ _ ab) rfl) ?_
    refine ah (br _ _ aa rfl rfl rfl i hi ab (by exact (Nat.zero_add _).trans (Nat.mul_one _))) ?_
    refine ah (cz _ _ aa rfl rfl rfl rfl rfl (by rw [aF];simp only [List.length_cons,List.length_nil];omega) ((iq _ _ _ ab).trans (congrArg bG q3.symm))) ?_
    refine ak (hK4 _ ?_)
    clear hK4;try clear K4
    refine ai ?_
    first
      | refine ah (aK _ _ rfl rfl (bQ ab)) ?_
      | refine ah (aK _ _ rfl rfl rfl) ?_
    refine ah (am _ aR) ?_
    refine ak ?_
    refine ⟨k+1,?_,?_,?_⟩
    · first | omega | trivial | exact ⟨by omega,by omega⟩
    · skip
      refine Le.mkJ [] [] rfl ?_ ?_ trivial ⟨rfl,trivial⟩ ?_
      · exact ⟨(iR rfl),(iS rfl),(iV rfl),(bd (by first | rfl | omega | (simp;done) | (simp;omega) | assumption)),trivial⟩
      · exact ⟨(bJ rfl rfl rfl (by first | rfl | omega | (simp;done) | (simp;omega) | assumption)),trivial⟩
      kernel_rfl
    omega
  refine bv ?_
  refine id ?_
  exact mi (.inl rfl) rfl (Le.outI [] [] (.tup rfl ap) rfl rfl rfl trivial ⟨⟨rfl,⟨_,rfl, .rowE (by rw [List.take_of_length_le ab])⟩,rfl⟩,trivial⟩ ⟨rfl,trivial⟩ rfl)
theorem eL (d:Dk) (h1:d.cells.length≤1000000) (h2:d.pend.length≤1000000) (ho: ∀ w∈d.pend,0≤w.1∧w.1 < (d.cells.length:Int)):
    Spec Try.prog 9 (bq [cm d] []) (bc (.agg [.ref (0,8) 0 d.cells.length, .v (.slice none 0 0)]) [((0,8), .row 3 1 (bG d.view))]):=by
  have hd:=ca d h1 h2
  have ha:=cW d.cells d.pend h2 h1 ho
  have hl:d.view.length=d.cells.length:=bF _ _
  have hl2:d.sync.cells.length=d.cells.length:=hl
  refine Spec.ofN Try.func9 rfl Try.ntmps9 rfl ?_
  refine al fun K1 hK1=> ?_
  refine ai ?_
  refine ah (bC (1,0) _ rfl rfl) ?_
  refine ah (aP (2,0) aa rfl rfl) ?_
  refine ak (hK1 _ ?_)
  clear hK1;try clear K1
  refine al fun K2 hK2=> ?_
  refine ai ?_
  first
    | refine ah (aE _ aa rfl rfl rfl rfl) ?_
    | refine ah (aD _ aa rfl rfl (by first | rfl | assumption) rfl) ?_
    | refine ah (aA _ aa rfl (by first | rfl | assumption) rfl) ?_
  refine ah (bW aa [((0,8),(5,0)),((1,8),(5,1))] ?_ (hd.toI) trivial ⟨rfl,rfl,trivial⟩ ac) ?_
  · repeat' (first | exact aW | refine aQ ?_ ?_ | exact Lv.v | exact bd (by assumption) | exact bd ab | exact Lv.sl | exact Lv.fp | exact Lv.nil | exact aC rfl rfl | exact aZ rfl | refine Lv.agg rfl ?_ | refine Lv.fn rfl ?_ rfl ?_ | refine Lv.ifc ?_ | exact ap | refine aj ?_ ?_)
  refine ah (aP (3,0) aa rfl rfl) ?_
  refine ah (aM _ _ aa rfl rfl rfl rfl (Nat.le_of_ble_eq_true rfl) rfl) ?_
  refine ak (hK2 _ ?_)
  clear hK2;try clear K2
  refine al fun K3 hK3=> ?_
  refine bz (Le.frzB (ys:=cN d.pend) (3,0) 1 rfl rfl rfl rfl (by rw [List.drop_zero,en]) (by rw [aU];omega)) ?_
  refine ai ?_
  first
    | refine ah (au _ aa rfl rfl rfl) ?_
    | refine ah (aw _ aa rfl rfl) ?_
  first
    | refine ah (aB _ aa rfl rfl dB) ?_
    | refine ah (aH _ aa rfl rfl (by first | rfl | exact an _ _ ab | exact ar _ _ ab | assumption | exact an _ _ ab) rfl) ?_
  first
    | refine ah (au _ aa rfl rfl rfl) ?_
    | refine ah (aw _ aa rfl rfl) ?_
  first
    | refine ah (aB _ aa rfl rfl dt) ?_
    | refine ah (aH _ aa rfl rfl (by first | rfl | exact an _ _ ab | exact ar _ _ ab | assumption | exact an _ _ ab) rfl) ?_
  refine ah (bW aa [((0,9),(5,0))] ?_ (ha) ⟨⟨rfl,⟨_,rfl, .rowE rfl⟩,rfl⟩,trivial⟩ ⟨rfl,trivial⟩ ac) ?_
  · repeat' (first | exact aW | refine aQ ?_ ?_ | exact Lv.v | exact bd (by assumption) | exact bd ab | exact Lv.sl | exact Lv.fp | exact Lv.nil | exact aC rfl rfl | exact aZ rfl | refine Lv.agg rfl ?_ | refine Lv.fn rfl ?_ rfl ?_ | refine Lv.ifc ?_ | exact ap | refine aj ?_ ?_)
  refine ak (hK3 _ ?_)
  clear hK3;try clear K3
  refine al fun K4 hK4=> ?_
  refine ai ?_
  first
    | refine ah (au _ aa rfl rfl rfl) ?_
    | refine ah (aw _ aa rfl rfl) ?_
  refine ah (aM _ _ aa rfl rfl rfl rfl (Nat.le_of_ble_eq_true rfl) rfl) ?_
  refine ak (hK4 _ ?_)
  clear hK4;try clear K4
  refine al fun K5 hK5=> ?_
  refine ai ?_
  first
    | refine ah (aE _ aa rfl rfl rfl rfl) ?_
    | refine ah (aD _ aa rfl rfl (by first | rfl | assumption) rfl) ?_
    | refine ah (aA _ aa rfl (by first | rfl | assumption) rfl) ?_
  refine ah (aM _ _ aa rfl rfl rfl rfl (Nat.le_of_ble_eq_true rfl) rfl) ?_
  refine ak (hK5 _ ?_)
  clear hK5;try clear K5
  refine bp ?_
  exact bS (.inr rfl) rfl (.cellA aa rfl rfl rfl) (Le.out [((0,8),(5,0))] [] (.agg rfl (aj (aC rfl rfl) (aj .v ap))) rfl rfl rfl trivial ⟨⟨rfl,⟨_,rfl, .rowE rfl⟩,rfl⟩,trivial⟩)
theorem ft (d:Dk) (h1:d.cells.length≤1000000) (h2:d.pend.length≤1000000) (ho: ∀ w∈d.pend,0≤w.1∧w.1 < (d.cells.length:Int)):
    Spec Try.prog 9 (bq [cm d] []) (bc (cm d.sync) []):=
  (eL d h1 h2 ho).toI.mono (Le.outO [] [(0,8)] (.agg rfl (aj (iO rfl rfl (bF _ _).symm rfl) (aj .nil ap))) rfl rfl rfl ⟨rfl,trivial⟩ trivial)
theorem fv (d:Dk) (h1:d.cells.length≤1000000) (h2:d.pend.length≤1000000) (ho: ∀ w∈d.pend,0≤w.1∧w.1 < (d.cells.length:Int)):
    Spec Try.prog 12 (bq [cm d] []) (bc (.sl d.view.length (bG d.view)) []):=by
  have hs:=ft d h1 h2 ho
  refine Spec.ofN Try.func12 rfl Try.ntmps12 rfl ?_
  refine al fun K1 hK1=> ?_
  refine ai ?_
  refine ah (bC (1,0) _ rfl rfl) ?_
  first
    | refine ah (az _ dz) ?_
    | refine ah (az _ bV) ?_
    | refine ah (az _ iU) ?_
    | refine ah (az _ (rfl:_=AV.z)) ?_
  refine ak (hK1 _ ?_)
  clear hK1;try clear K1
  refine al fun K2 hK2=> ?_
  refine ai ?_
  first
    | refine ah (aE _ aa rfl rfl rfl rfl) ?_
    | refine ah (aD _ aa rfl rfl (by first | rfl | assumption) rfl) ?_
    | refine ah (aA _ aa rfl (by first | rfl | assumption) rfl) ?_
  refine ah (aX aa (by repeat' (first | exact aJ | refine aG ?_ ?_ | exact Lv.v | exact bd ab | exact Lv.sl | exact Lv.fp | exact Lv.nil | refine Lv.agg rfl ?_ | refine Lv.fn rfl ?_ rfl ?_ | exact ap | refine aj ?_ ?_ | exact Lv.z0)) (hs) rfl rfl) ?_
  first
    | refine ah (cS _ aa rfl dt) ?_
    | refine ah (cS _ aa rfl dB) ?_
    | refine ah (cS _ aa rfl kw) ?_
    | refine ah (cS _ aa rfl (rfl:_=some (AV.z))) ?_
    | refine ah (ie _ aa rfl rfl rfl) ?_
  refine ah (az _ dz) ?_
  refine ak (hK2 _ ?_)
  clear hK2;try clear K2
  refine bp ?_
  exact oH rfl rfl
theorem fZ (n:Nat) (h1:n≤1000000):
    Spec Try.prog 18 (bq [.v (.int .i64 (n:Int))] []) (bc (.agg [.ref (0,8) 0 n, .v (.slice none 0 0)]) [((0,8), .row 3 1 (bG (List.replicate n 0)))]):=by
  refine Spec.ofN Try.func18 rfl Try.ntmps18 rfl ?_
  refine al fun K1 hK1=> ?_
  refine ai ?_
  refine ah (aP (2,0) aa rfl rfl) ?_
  refine ak (hK1 _ ?_)
  clear hK1;try clear K1
  refine al fun K2 hK2=> ?_
  refine ai ?_
  refine ah (am _ aR) ?_
  first
    | refine ah (gb (4,0) _ _ aa rfl rfl _ rfl rfl ab rfl rfl) ?_
    | refine ah (gb (4,0) _ _ aa rfl rfl (Int.toNat _) (Int.toNat_of_nonneg ab).symm (Int.toNat_of_nonneg ab).symm ab rfl rfl) ?_
  refine ah (bE _ aa rfl (by exact hY)) ?_
  refine ah (aM _ _ aa rfl rfl rfl rfl (Nat.le_of_ble_eq_true rfl) rfl) ?_
  refine ak (hK2 _ ?_)
  clear hK2;try clear K2
  refine bp ?_
  exact bS (.inr rfl) rfl (.cellA aa rfl rfl rfl) (Le.out [((0,8),(4,0))] [] (.agg rfl (aj (aC rfl rfl) (aj .v ap))) rfl rfl rfl trivial ⟨⟨rfl,⟨_,rfl, .rowE (by simp [bG,rep])⟩,rfl⟩,trivial⟩)
theorem ke (v:List Int) (n:Nat):(bG v).take n++(bG (List.replicate n 0)).drop v.length=bG ((v++List.replicate n 0).take n):=by
  simp only [bG,← List.map_take,← List.map_drop,← List.map_append]
  congr 1
  rw [List.take_append,List.take_replicate,List.drop_replicate]
  congr 2
  omega
theorem eS (d:Dk) (n:Nat) (h1:d.cells.length≤1000000) (h2:d.pend.length≤1000000) (hn:n≤1000000) (ho: ∀ w∈d.pend,0≤w.1∧w.1 < (d.cells.length:Int)):
    Spec Try.prog 11 (bq [cm d, .v (.int .i64 (n:Int))] []) (bc (.agg [.ref (0,8) 0 n, .v (.slice none 0 0)]) [((0,8), .row 3 1 (bG (d.resize n).cells))]):=by
  have hv:=fv d h1 h2 ho
  have hnw:=fZ n hn
  have hl:(d.resize n).cells.length=n:=by simp [Dk.resize]
  refine Spec.ofN Try.func11 rfl Try.ntmps11 rfl ?_
  refine al fun K1 hK1=> ?_
  refine ai ?_
  refine ah (bC (2,0) _ rfl rfl) ?_
  refine ah (aP (4,0) aa rfl rfl) ?_
  refine ak (hK1 _ ?_)
  clear hK1;try clear K1
  refine al fun K2 hK2=> ?_
  refine ai ?_
  refine ah (am _ aR) ?_
  refine ah (bW aa [((0,8),(7,0))] ?_ (hnw.toI) trivial ⟨rfl,trivial⟩ ac) ?_
  · repeat' (first | exact aW | refine aQ ?_ ?_ | exact Lv.v | exact bd (by assumption) | exact bd ab | exact Lv.sl | exact Lv.fp | exact Lv.nil | exact aC rfl rfl | exact aZ rfl | refine Lv.agg rfl ?_ | refine Lv.fn rfl ?_ rfl ?_ | refine Lv.ifc ?_ | exact ap | refine aj ?_ ?_)
  refine ah (aP (5,0) aa rfl rfl) ?_
  refine ah (aM _ _ aa rfl rfl rfl rfl (Nat.le_of_ble_eq_true rfl) rfl) ?_
  refine ak (hK2 _ ?_)
  clear hK2;try clear K2
  refine al fun K3 hK3=> ?_
  refine bz (σ':=bi 14 [(2,_),(4,_),(5,_)] [((2,0),_),((4,0),_),((7,0),_),((5,0),_)] [] []) (by
    refine Le.mkJ [] [] rfl ?_ ?_ trivial trivial ?_
    · exact ⟨(iP rfl),(iP rfl),(iP rfl),trivial⟩
    · exact ⟨(ay rfl rfl rfl),(ay rfl rfl rfl),(ay rfl rfl rfl),(ay rfl rfl rfl),trivial⟩
    kernel_rfl) ?_
  refine dq 4 [8,9,10,11] [] ac ac rfl (be rfl) (rfl:_=[_,_,_,_]) (rfl:_=[_]) ?_
  first
    | refine ax (_,[]) (fun τ=> au _ aa rfl rfl rfl) ?_
    | refine ax (_,[]) (fun τ=> aw _ aa rfl rfl) ?_
  refine aO (rfl:_=[_]) ?_
  first
    | refine ax (_,[]) (fun τ=> aB _ aa rfl rfl dB) ?_
    | refine ax (_,[]) (fun τ=> aH _ aa rfl rfl (by first | rfl | exact an _ _ ab | exact ar _ _ ab | assumption | exact an _ _ ab) rfl) ?_
  refine aO (rfl:_=[_,_]) ?_
  first
    | refine ax (_,[]) (fun τ=> aE _ aa rfl rfl rfl rfl) ?_
    | refine ax (_,[]) (fun τ=> aD _ aa rfl rfl (by first | rfl | assumption) rfl) ?_
    | refine ax (_,[]) (fun τ=> aA _ aa rfl (by first | rfl | assumption) rfl) ?_
  refine aO (rfl:_=[_,_,_]) ?_
  refine ax (_,[]) (fun τ=> (aX aa (by repeat' (first | exact aJ | refine aG ?_ ?_ | exact Lv.v | exact bd ab | exact Lv.sl | exact Lv.fp | exact Lv.nil | refine Lv.agg rfl ?_ | refine Lv.fn rfl ?_ rfl ?_ | exact ap | refine aj ?_ ?_ | exact Lv.z0)) (hv) rfl rfl)) ?_
  refine aO (rfl:_=[_,_,_,_]) ?_
  refine cJ ⟨rfl,?_⟩
  refine ah (kj _ _ aa rfl rfl (by simp) (.sl (by rw [aF,Nat.mul_one])) (ke _ _) rfl) ?_
  refine ak (hK3 _ ?_)
  clear hK3;try clear K3
  refine al fun K4 hK4=> ?_
  refine ai ?_
  first
    | refine ah (aE _ aa rfl rfl rfl rfl) ?_
    | refine ah (aD _ aa rfl rfl (by first | rfl | assumption) rfl) ?_
    | refine ah (aA _ aa rfl (by first | rfl | assumption) rfl) ?_
  refine ah (aM _ _ aa rfl rfl rfl rfl (Nat.le_of_ble_eq_true rfl) rfl) ?_
  refine ak (hK4 _ ?_)
  clear hK4;try clear K4
  refine bp ?_
  exact bS (.inr rfl) rfl (.cellA aa rfl rfl rfl) (Le.out [((0,8),(7,0))] [] (.agg rfl (aj (aC rfl rfl) (aj .v ap))) rfl rfl rfl trivial ⟨⟨rfl,⟨_,rfl, .rowE rfl⟩,rfl⟩,trivial⟩)
theorem gl (d:Dk) (n:Nat) (h1:d.cells.length≤1000000) (h2:d.pend.length≤1000000) (hn:n≤1000000) (ho: ∀ w∈d.pend,0≤w.1∧w.1 < (d.cells.length:Int)):
    Spec Try.prog 11 (bq [cm d, .v (.int .i64 (n:Int))] []) (bc (cm (d.resize n)) []):=
  (eS d n h1 h2 hn ho).toI.mono (Le.outO [] [(0,8)] (.agg rfl (aj (iO rfl rfl (by simp [Dk.resize]) rfl) (aj .nil ap))) rfl rfl rfl ⟨rfl,trivial⟩ trivial)
theorem gS (n:Nat) (h1:n≤1000000):Spec Try.prog 18 (bq [.v (.int .i64 (n:Int))] []) (bc (cm ⟨List.replicate n 0,[]⟩) []):=
  (fZ n h1).toI.mono (Le.outO [] [(0,8)] (.agg rfl (aj (iO rfl rfl (by simp) rfl) (aj .nil ap))) rfl rfl rfl ⟨rfl,trivial⟩ trivial)

abbrev el (d:Dk):Prop:= ∀ w∈d.pend,0≤w.1∧w.1 < (d.cells.length:Int)
theorem kE {ρ:aq→aq} {σ:St} {F:aq→Bool} {id:aq} {e:TypeId} {n m:Nat} {l r:List (Int×Int)} (hid:σ.ob id= .obj (.row e 2 (cN l))) (hF:F id=true) (hm:n=m) (hl:l=r) (hn:m=r.length:=by (first | rfl | omega | simp_all)):Lv ρ σ F (.sl m (cN r)) (.ref id 0 n):=by
  subst hm;subst hl
  exact jI hid hF (by rw [aU,hn]) rfl
theorem gZ (d:Dk) (h1:d.cells.length≤1000000) (h2:d.pend.length≤1000000) (c v:Int) (hc:c < 0):
    Spec Try.prog 7 (bq [cm d, .v (.int .i64 c), .v (.int .i64 v)] []) (bc (cm d) []):=by
  have hd:=ca d h1 h2
  refine Spec.ofN Try.func7 rfl Try.ntmps7 rfl ?_
  refine al fun K1 hK1=> ?_
  refine ai ?_
  refine ah (bC (3,0) _ rfl rfl) ?_
  refine ah (aP (6,0) aa rfl rfl) ?_
  refine ak (hK1 _ ?_)
  clear hK1;try clear K1
  refine al fun K2 hK2=> ?_
  refine ai ?_
  first
    | refine ah (aE _ aa rfl rfl rfl rfl) ?_
    | refine ah (aD _ aa rfl rfl (by first | rfl | assumption) rfl) ?_
    | refine ah (aA _ aa rfl (by first | rfl | assumption) rfl) ?_
  refine ah (bW aa [((0,8),(9,0)),((1,8),(9,1))] ?_ (hd.toI) trivial ⟨rfl,rfl,trivial⟩ ac) ?_
  · repeat' (first | exact aW | refine aQ ?_ ?_ | exact Lv.v | exact bd (by assumption) | exact bd ab | exact Lv.sl | exact Lv.fp | exact Lv.nil | exact aC rfl rfl | exact aZ rfl | refine Lv.agg rfl ?_ | refine Lv.fn rfl ?_ rfl ?_ | refine Lv.ifc ?_ | exact ap | refine aj ?_ ?_)
  refine ah (aP (7,0) aa rfl rfl) ?_
  refine ah (aM _ _ aa rfl rfl rfl rfl (Nat.le_of_ble_eq_true rfl) rfl) ?_
  refine ak (hK2 _ ?_)
  clear hK2;try clear K2
  refine al fun K3 hK3=> ?_
  refine al fun K4 hK4=> ?_
  refine ai ?_
  refine ah (am _ aR) ?_
  refine ah (aL (r:=true) _ _ rfl rfl (decide_eq_true ab)) ?_
  refine ah (am _ cw) ?_
  refine bP rfl rfl ag ?_
  refine bP rfl rfl ag ?_
  refine bP rfl rfl ag ?_
  refine bP rfl rfl ag ?_
  refine bP rfl rfl ag ?_
  refine ah (bu _ _ _ rfl cw) ?_
  refine ak (hK4 _ ?_)
  clear hK4;try clear K4
  refine fc rfl rfl ?_
  refine al fun K5 hK5=> ?_
  refine bz (σ':=bi 45 [(6,_),(7,_)] [((6,0),_),((9,0),_),((9,1),_),((7,0),_)] [] []) (by
    refine Le.mkJ [] [] rfl ?_ ?_ trivial trivial ?_
    · exact ⟨(iP rfl),(iP rfl),trivial⟩
    · exact ⟨(ay rfl rfl rfl),(ay rfl rfl rfl),(ay rfl rfl rfl),(ay rfl rfl rfl),trivial⟩
    kernel_rfl) ?_
  refine ai ?_
  first
    | refine ah (aE _ aa rfl rfl rfl rfl) ?_
    | refine ah (aD _ aa rfl rfl (by first | rfl | assumption) rfl) ?_
    | refine ah (aA _ aa rfl (by first | rfl | assumption) rfl) ?_
  refine ah (aM _ _ aa rfl rfl rfl rfl (Nat.le_of_ble_eq_true rfl) rfl) ?_
  refine ak (hK5 _ ?_)
  clear hK5;try clear K5
  refine bp ?_
  exact bS (.inr rfl) rfl (.cellA aa rfl rfl rfl) (Le.out [] [(9,0),(9,1)] (.agg rfl (aj (iO rfl rfl rfl rfl) (aj (kE rfl rfl rfl rfl) ap))) rfl rfl rfl ⟨rfl,rfl,trivial⟩ trivial)
theorem hT (d:Dk) (h1:d.cells.length≤1000000) (h2:d.pend.length≤1000000) (c v:Int) (hc:0≤c) (hb:(d.cells.length:Int)≤c):
    Spec Try.prog 7 (bq [cm d, .v (.int .i64 c), .v (.int .i64 v)] []) (bc (cm d) []):=by
  have hd:=ca d h1 h2
  refine Spec.ofN Try.func7 rfl Try.ntmps7 rfl ?_
  refine al fun K1 hK1=> ?_
  refine ai ?_
  refine ah (bC (3,0) _ rfl rfl) ?_
  refine ah (aP (6,0) aa rfl rfl) ?_
  refine ak (hK1 _ ?_)
  clear hK1;try clear K1
  refine al fun K2 hK2=> ?_
  refine ai ?_
  first
    | refine ah (aE _ aa rfl rfl rfl rfl) ?_
    | refine ah (aD _ aa rfl rfl (by first | rfl | assumption) rfl) ?_
    | refine ah (aA _ aa rfl (by first | rfl | assumption) rfl) ?_
  refine ah (bW aa [((0,8),(9,0)),((1,8),(9,1))] ?_ (hd.toI) trivial ⟨rfl,rfl,trivial⟩ ac) ?_
  · repeat' (first | exact aW | refine aQ ?_ ?_ | exact Lv.v | exact bd (by assumption) | exact bd ab | exact Lv.sl | exact Lv.fp | exact Lv.nil | exact aC rfl rfl | exact aZ rfl | refine Lv.agg rfl ?_ | refine Lv.fn rfl ?_ rfl ?_ | refine Lv.ifc ?_ | exact ap | refine aj ?_ ?_)
  refine ah (aP (7,0) aa rfl rfl) ?_
  refine ah (aM _ _ aa rfl rfl rfl rfl (Nat.le_of_ble_eq_true rfl) rfl) ?_
  refine ak (hK2 _ ?_)
  clear hK2;try clear K2
  refine al fun K3 hK3=> ?_
  refine al fun K4 hK4=> ?_
  refine ai ?_
  refine ah (am _ aR) ?_
  refine ah (aL (r:=false) _ _ rfl rfl (decide_eq_false ab)) ?_
  refine ah (am _ cw) ?_
  refine aI rfl rfl (am _ aR) ?_
  first
    | refine aI rfl rfl (au _ aa rfl rfl rfl) ?_
    | refine aI rfl rfl (aw _ aa rfl rfl) ?_
  first
    | refine aI rfl rfl (aB _ aa rfl rfl dt) ?_
    | refine aI rfl rfl (aH _ aa rfl rfl (by first | rfl | exact an _ _ ab | exact ar _ _ ab | assumption | exact an _ _ ab) rfl) ?_
  refine aI rfl rfl (bl _ aa rfl) ?_
  refine aI rfl rfl (dM (r:=true) _ _ rfl rfl (decide_eq_true ab)) ?_
  refine ah (bu _ _ _ rfl cw) ?_
  refine ak (hK4 _ ?_)
  clear hK4;try clear K4
  refine fc rfl rfl ?_
  refine al fun K5 hK5=> ?_
  refine bz (σ':=bi 45 [(6,_),(7,_)] [((6,0),_),((9,0),_),((9,1),_),((7,0),_)] [] []) (by
    refine Le.mkJ [] [] rfl ?_ ?_ trivial trivial ?_
    · exact ⟨(iP rfl),(iP rfl),trivial⟩
    · exact ⟨(ay rfl rfl rfl),(ay rfl rfl rfl),(ay rfl rfl rfl),(ay rfl rfl rfl),trivial⟩
    kernel_rfl) ?_
  refine ai ?_
  first
    | refine ah (aE _ aa rfl rfl rfl rfl) ?_
    | refine ah (aD _ aa rfl rfl (by first | rfl | assumption) rfl) ?_
    | refine ah (aA _ aa rfl (by first | rfl | assumption) rfl) ?_
  refine ah (aM _ _ aa rfl rfl rfl rfl (Nat.le_of_ble_eq_true rfl) rfl) ?_
  refine ak (hK5 _ ?_)
  clear hK5;try clear K5
  refine bp ?_
  exact bS (.inr rfl) rfl (.cellA aa rfl rfl rfl) (Le.out [] [(9,0),(9,1)] (.agg rfl (aj (iO rfl rfl rfl rfl) (aj (kE rfl rfl rfl rfl) ap))) rfl rfl rfl ⟨rfl,rfl,trivial⟩ trivial)
theorem dj (d:Dk) (h1:d.cells.length≤1000000) (h2:d.pend.length≤1000000) (c v:Int) (hc:0≤c) (hb:c < (d.cells.length:Int)) (hr:d.pend.length+1≤4):
    Spec Try.prog 7 (bq [cm d, .v (.int .i64 c), .v (.int .i64 v)] []) (bc (cm ⟨d.cells,d.pend++[(c,v)]⟩) []):=by
  have hd:=ca d h1 h2
  have hl:(d.pend++[(c,v)]).length=d.pend.length+1:=by simp
  refine Spec.ofN Try.func7 rfl Try.ntmps7 rfl ?_
  refine al fun K1 hK1=> ?_
  refine ai ?_
  refine ah (bC (3,0) _ rfl rfl) ?_
  refine ah (aP (6,0) aa rfl rfl) ?_
  refine ak (hK1 _ ?_)
  clear hK1;try clear K1
  refine al fun K2 hK2=> ?_
  refine ai ?_
  first
    | refine ah (aE _ aa rfl rfl rfl rfl) ?_
    | refine ah (aD _ aa rfl rfl (by first | rfl | assumption) rfl) ?_
    | refine ah (aA _ aa rfl (by first | rfl | assumption) rfl) ?_
  refine ah (bW aa [((0,8),(9,0)),((1,8),(9,1))] ?_ (hd.toI) trivial ⟨rfl,rfl,trivial⟩ ac) ?_
  · repeat' (first | exact aW | refine aQ ?_ ?_ | exact Lv.v | exact bd (by assumption) | exact bd ab | exact Lv.sl | exact Lv.fp | exact Lv.nil | exact aC rfl rfl | exact aZ rfl | refine Lv.agg rfl ?_ | refine Lv.fn rfl ?_ rfl ?_ | refine Lv.ifc ?_ | exact ap | refine aj ?_ ?_)
  refine ah (aP (7,0) aa rfl rfl) ?_
  refine ah (aM _ _ aa rfl rfl rfl rfl (Nat.le_of_ble_eq_true rfl) rfl) ?_
  refine ak (hK2 _ ?_)
  clear hK2;try clear K2
  refine al fun K3 hK3=> ?_
  refine al fun K4 hK4=> ?_
  refine ai ?_
  refine ah (am _ aR) ?_
  refine ah (aL (r:=false) _ _ rfl rfl (decide_eq_false ab)) ?_
  refine ah (am _ cw) ?_
  refine aI rfl rfl (am _ aR) ?_
  first
    | refine aI rfl rfl (au _ aa rfl rfl rfl) ?_
    | refine aI rfl rfl (aw _ aa rfl rfl) ?_
  first
    | refine aI rfl rfl (aB _ aa rfl rfl dt) ?_
    | refine aI rfl rfl (aH _ aa rfl rfl (by first | rfl | exact an _ _ ab | exact ar _ _ ab | assumption | exact an _ _ ab) rfl) ?_
  refine aI rfl rfl (bl _ aa rfl) ?_
  refine aI rfl rfl (dM (r:=false) _ _ rfl rfl (decide_eq_false ab)) ?_
  refine ah (bu _ _ _ rfl cw) ?_
  refine ak (hK4 _ ?_)
  clear hK4;try clear K4
  refine cq rfl rfl ?_
  refine aT (hK3 _ ?_)
  clear hK3;try clear K3
  refine al fun K5 hK5=> ?_
  refine bz (σ':=bi 45 [(1,_),(2,_),(6,_),(7,_)] [((6,0),_),((9,0),_),((9,1),_),((7,0),_)] [] []) (by
    refine Le.mkJ [] [] rfl ?_ ?_ trivial trivial ?_
    · exact ⟨(iV rfl),(iV rfl),(iP rfl),(iP rfl),trivial⟩
    · exact ⟨(ay rfl rfl rfl),(ay rfl rfl rfl),(ay rfl rfl rfl),(ay rfl rfl rfl),trivial⟩
    kernel_rfl) ?_
  refine ai ?_
  first
    | refine ah (au _ aa rfl rfl rfl) ?_
    | refine ah (aw _ aa rfl rfl) ?_
  first
    | refine ah (aB _ aa rfl rfl dB) ?_
    | refine ah (aH _ aa rfl rfl (by first | rfl | exact an _ _ ab | exact ar _ _ ab | assumption | exact an _ _ ab) rfl) ?_
  refine ah (am _ aR) ?_
  refine ah (am _ aR) ?_
  refine ah (bE _ aa rfl (by exact hY)) ?_
  refine ah (bO _ _ aa rfl ae (by first | (simp <;> rfl) | (simp;exact ⟨rfl,rfl⟩) | (simp;exact ⟨rfl,rfl,rfl⟩)) ag rfl) ?_
  refine ah (cT (m:=1) (news:=gX (c,v)) (26,0) _ _ aa rfl rfl (by rw [aU]) (.sl rfl) ab rfl (dw _ (c,v)) rfl) ?_
  first
    | refine ah (au _ aa rfl rfl rfl) ?_
    | refine ah (aw _ aa rfl rfl) ?_
  refine ah (aM _ _ aa rfl rfl rfl rfl (Nat.le_of_ble_eq_true rfl) rfl) ?_
  refine ak (hK5 _ ?_)
  clear hK5;try clear K5
  refine al fun K6 hK6=> ?_
  refine al fun K7 hK7=> ?_
  refine ai ?_
  first
    | refine ah (au _ aa rfl rfl rfl) ?_
    | refine ah (aw _ aa rfl rfl) ?_
  first
    | refine ah (aB _ aa rfl rfl dB) ?_
    | refine ah (aH _ aa rfl rfl (by first | rfl | exact an _ _ ab | exact ar _ _ ab | assumption | exact an _ _ ab) rfl) ?_
  first
    | refine ah (bt _ aa rfl rfl) ?_
    | refine ah (bs _ aa rfl rfl) ?_
  first
    | refine ah (dr _ _ rfl rfl (by assumption)) ?_
    | refine ah (dr _ _ rfl rfl rfl) ?_
  refine ak (hK7 _ ?_)
  clear hK7;try clear K7
  refine cq rfl (decide_eq_false ab) ?_
  refine aT (hK6 _ ?_)
  clear hK6;try clear K6
  refine al fun K8 hK8=> ?_
  refine ai ?_
  first
    | refine ah (aE _ aa rfl rfl rfl rfl) ?_
    | refine ah (aD _ aa rfl rfl (by first | rfl | assumption) rfl) ?_
    | refine ah (aA _ aa rfl (by first | rfl | assumption) rfl) ?_
  refine ah (aM _ _ aa rfl rfl rfl rfl (Nat.le_of_ble_eq_true rfl) rfl) ?_
  refine ak (hK8 _ ?_)
  clear hK8;try clear K8
  refine bp ?_
  exact bS (.inr rfl) rfl (.cellA aa rfl rfl rfl) (Le.out [] [(9,0),(26,0)] (.agg rfl (aj (iO rfl rfl rfl rfl) (aj (kE rfl rfl hl.symm rfl) ap))) rfl rfl rfl ⟨rfl,rfl,trivial⟩ trivial)
theorem gT (d:Dk) (h1:d.cells.length≤1000000) (h2:d.pend.length≤1000000) (c v:Int) (ho:el d) (hc:0≤c) (hb:c < (d.cells.length:Int)) (hr:4 < d.pend.length+1):
    Spec Try.prog 7 (bq [cm d, .v (.int .i64 c), .v (.int .i64 v)] []) (bc (cm ⟨dZ d.cells ((d.pend++[(c,v)]).take 1),(d.pend++[(c,v)]).drop 1⟩) []):=by
  have hd:=ca d h1 h2
  have hl:(d.pend++[(c,v)]).length=d.pend.length+1:=by simp
  have hia:=bM (d.pend++[(c,v)]) 0 ab
  have ht:(d.pend++[(c,v)]).take 1=[(d.pend++[(c,v)]).getD 0 (0,0)]:=by
    cases d.pend with
    | nil=> rfl
    | cons x l=> rfl
  have hw:0≤((d.pend++[(c,v)]).getD 0 (0,0)).1∧((d.pend++[(c,v)]).getD 0 (0,0)).1 < (d.cells.length:Int):=by
    have hm:(d.pend++[(c,v)]).getD 0 (0,0)∈d.pend++[(c,v)]:=by rw [List.getD_eq_getElem?_getD,List.getElem?_eq_getElem ab];exact List.getElem_mem _
    rcases List.mem_append.1 hm with hm | hm
    · exact ho _ hm
    rw [List.mem_singleton.1 hm];exact ⟨hc,hb⟩
  have hl2:((d.pend++[(c,v)]).drop 1).length=d.pend.length+1 - 1:=by rw [List.length_drop,hl]
  have hl3:(dZ d.cells ((d.pend++[(c,v)]).take 1)).length=d.cells.length:=bF _ _
  have hsl:((cN (d.pend++[(c,v)])).drop (1*2)).take ((d.pend.length+1 - 1)*2)=cN ((d.pend++[(c,v)]).drop 1):=by
    have e:(cN (d.pend++[(c,v)])).drop 2=cN ((d.pend++[(c,v)]).drop 1):=by
      cases d.pend with
      | nil=> rfl
      | cons x l=> rfl
    rw [Nat.one_mul,e,← hl2,en]
  generalize (d.pend++[(c,v)]).getD 0 (0,0)=w at hia ht hw
  have hap:=cW d.cells [w] (by simp) h1 (fun x hx=> by rw [List.mem_singleton.1 hx];exact hw)
  have hap:Spec Try.prog 25 (cv [.ref (0,9) 0 d.cells.length, .sl 1 (cN [w])] [((0,9), .row 3 1 (bG d.cells))]) (bY (.tup []) [((0,9), .row 3 1 (bG (dZ d.cells [w])))] [(0,9)] [(0,9)]):=hap
  refine Spec.ofN Try.func7 rfl Try.ntmps7 rfl ?_
  refine al fun K1 hK1=> ?_
  refine ai ?_
  refine ah (bC (3,0) _ rfl rfl) ?_
  refine ah (aP (6,0) aa rfl rfl) ?_
  refine ak (hK1 _ ?_)
  clear hK1;try clear K1
  refine al fun K2 hK2=> ?_
  refine ai ?_
  first
    | refine ah (aE _ aa rfl rfl rfl rfl) ?_
    | refine ah (aD _ aa rfl rfl (by first | rfl | assumption) rfl) ?_
    | refine ah (aA _ aa rfl (by first | rfl | assumption) rfl) ?_
  refine ah (bW aa [((0,8),(9,0)),((1,8),(9,1))] ?_ (hd.toI) trivial ⟨rfl,rfl,trivial⟩ ac) ?_
  · repeat' (first | exact aW | refine aQ ?_ ?_ | exact Lv.v | exact bd (by assumption) | exact bd ab | exact Lv.sl | exact Lv.fp | exact Lv.nil | exact aC rfl rfl | exact aZ rfl | refine Lv.agg rfl ?_ | refine Lv.fn rfl ?_ rfl ?_ | refine Lv.ifc ?_ | exact ap | refine aj ?_ ?_)
  refine ah (aP (7,0) aa rfl rfl) ?_
  refine ah (aM _ _ aa rfl rfl rfl rfl (Nat.le_of_ble_eq_true rfl) rfl) ?_
  refine ak (hK2 _ ?_)
  clear hK2;try clear K2
  refine al fun K3 hK3=> ?_
  refine al fun K4 hK4=> ?_
  refine ai ?_
  refine ah (am _ aR) ?_
  refine ah (aL (r:=false) _ _ rfl rfl (decide_eq_false ab)) ?_
  refine ah (am _ cw) ?_
  refine aI rfl rfl (am _ aR) ?_
  first
    | refine aI rfl rfl (au _ aa rfl rfl rfl) ?_
    | refine aI rfl rfl (aw _ aa rfl rfl) ?_
  first
    | refine aI rfl rfl (aB _ aa rfl rfl dt) ?_
    | refine aI rfl rfl (aH _ aa rfl rfl (by first | rfl | exact an _ _ ab | exact ar _ _ ab | assumption | exact an _ _ ab) rfl) ?_
  refine aI rfl rfl (bl _ aa rfl) ?_
  refine aI rfl rfl (dM (r:=false) _ _ rfl rfl (decide_eq_false ab)) ?_
  refine ah (bu _ _ _ rfl cw) ?_
  refine ak (hK4 _ ?_)
  clear hK4;try clear K4
  refine cq rfl rfl ?_
  refine aT (hK3 _ ?_)
  clear hK3;try clear K3
  refine al fun K5 hK5=> ?_
  refine bz (σ':=bi 45 [(1,_),(2,_),(6,_),(7,_)] [((6,0),_),((9,0),_),((9,1),_),((7,0),_)] [] []) (by
    refine Le.mkJ [] [] rfl ?_ ?_ trivial trivial ?_
    · exact ⟨(iV rfl),(iV rfl),(iP rfl),(iP rfl),trivial⟩
    · exact ⟨(ay rfl rfl rfl),(ay rfl rfl rfl),(ay rfl rfl rfl),(ay rfl rfl rfl),trivial⟩
    kernel_rfl) ?_
  refine ai ?_
  first
    | refine ah (au _ aa rfl rfl rfl) ?_
    | refine ah (aw _ aa rfl rfl) ?_
  first
    | refine ah (aB _ aa rfl rfl dB) ?_
    | refine ah (aH _ aa rfl rfl (by first | rfl | exact an _ _ ab | exact ar _ _ ab | assumption | exact an _ _ ab) rfl) ?_
  refine ah (am _ aR) ?_
  refine ah (am _ aR) ?_
  refine ah (bE _ aa rfl (by exact hY)) ?_
  refine ah (bO _ _ aa rfl ae (by first | (simp <;> rfl) | (simp;exact ⟨rfl,rfl⟩) | (simp;exact ⟨rfl,rfl,rfl⟩)) ag rfl) ?_
  refine ah (cT (m:=1) (news:=gX (c,v)) (26,0) _ _ aa rfl rfl (by rw [aU]) (.sl rfl) ab rfl (dw _ (c,v)) rfl) ?_
  first
    | refine ah (au _ aa rfl rfl rfl) ?_
    | refine ah (aw _ aa rfl rfl) ?_
  refine ah (aM _ _ aa rfl rfl rfl rfl (Nat.le_of_ble_eq_true rfl) rfl) ?_
  refine ak (hK5 _ ?_)
  clear hK5;try clear K5
  refine al fun K6 hK6=> ?_
  refine al fun K7 hK7=> ?_
  refine ai ?_
  first
    | refine ah (au _ aa rfl rfl rfl) ?_
    | refine ah (aw _ aa rfl rfl) ?_
  first
    | refine ah (aB _ aa rfl rfl dB) ?_
    | refine ah (aH _ aa rfl rfl (by first | rfl | exact an _ _ ab | exact ar _ _ ab | assumption | exact an _ _ ab) rfl) ?_
  first
    | refine ah (bt _ aa rfl rfl) ?_
    | refine ah (bs _ aa rfl rfl) ?_
  first
    | refine ah (dr _ _ rfl rfl (by assumption)) ?_
    | refine ah (dr _ _ rfl rfl rfl) ?_
  refine ak (hK7 _ ?_)
  clear hK7;try clear K7
  refine fc rfl (decide_eq_true ab) ?_
  refine al fun K8 hK8=> ?_
  refine bz (Le.frzB (ys:=cN (d.pend++[(c,v)])) (7,0) 1 rfl rfl rfl rfl (by rw [List.drop_zero,← hl,en]) (by rw [aU];omega)) ?_
  refine dq 8 [32,33,34,35,36,37,38,39] [(9,0)] ac ac rfl (be rfl) (rfl:_=[_,_,_,_,_,_,_,_]) (rfl:_=[]) ?_
  first
    | refine ax (_,[]) (fun τ=> au _ aa rfl rfl rfl) ?_
    | refine ax (_,[]) (fun τ=> aw _ aa rfl rfl) ?_
  refine aO (rfl:_=[_]) ?_
  first
    | refine ax (_,[]) (fun τ=> aB _ aa rfl rfl dB) ?_
    | refine ax (_,[]) (fun τ=> aH _ aa rfl rfl (by first | rfl | exact an _ _ ab | exact ar _ _ ab | assumption | exact an _ _ ab) rfl) ?_
  refine aO (rfl:_=[_,_]) ?_
  first
    | refine ax (_,[]) (fun τ=> au _ aa rfl rfl rfl) ?_
    | refine ax (_,[]) (fun τ=> aw _ aa rfl rfl) ?_
  refine aO (rfl:_=[_,_,_]) ?_
  first
    | refine ax (_,[]) (fun τ=> aB _ aa rfl rfl dt) ?_
    | refine ax (_,[]) (fun τ=> aH _ aa rfl rfl (by first | rfl | exact an _ _ ab | exact ar _ _ ab | assumption | exact an _ _ ab) rfl) ?_
  refine aO (rfl:_=[_,_,_,_]) ?_
  refine ax (_,[]) (fun τ=> bB _ _ aa rfl rfl 0 rfl ab (by rw [aU];omega) rfl) ?_
  refine aO (rfl:_=[_,_,_,_,_]) ?_
  refine ax (_,[]) (fun τ=> aA _ aa rfl (by exact hia) rfl) ?_
  refine aO (rfl:_=[_,_,_,_,_,_]) ?_
  refine ax (_,[]) (fun τ=> bO _ _ aa rfl ae (by simp <;> rfl) ag (by exact (rfl:_=some (cN [w])))) ?_
  refine aO (rfl:_=[_,_,_,_,_,_,_]) ?_
  refine ax (_,[((9,0),_)]) (fun τ=> (bA aa [((0,9),(9,0))] ?_ (hap) ⟨⟨rfl,⟨_,rfl, .rowE rfl⟩,rfl⟩,trivial⟩ ⟨rfl,trivial⟩ ⟨rfl,trivial⟩ rfl rfl ac ac)) ?_
  · repeat' (first | exact aW | refine aQ ?_ ?_ | exact Lv.v | exact bd (by assumption) | exact bd ab | exact Lv.sl | exact Lv.fp | exact Lv.nil | exact aC rfl rfl | exact aZ rfl | refine Lv.agg rfl ?_ | refine Lv.fn rfl ?_ rfl ?_ | refine Lv.ifc ?_ | exact ap | refine aj ?_ ?_)
  refine aO (rfl:_=[_,_,_,_,_,_,_,_]) ?_
  refine cJ ⟨rfl,?_⟩
  refine ak (hK8 _ ?_)
  clear hK8;try clear K8
  refine bz (σ':=bi 45 [(6,_),(7,_)] [((6,0),_),((9,0),_),((7,0),_)] [] []) (by
    refine Le.mkJ [] [] rfl ?_ ?_ trivial trivial ?_
    · exact ⟨(iP rfl),(iP rfl),trivial⟩
    · exact ⟨(ay rfl rfl rfl),(ay rfl rfl rfl),(ay rfl rfl rfl),trivial⟩
    kernel_rfl) ?_
  refine ai ?_
  first
    | refine ah (au _ aa rfl rfl rfl) ?_
    | refine ah (aw _ aa rfl rfl) ?_
  first
    | refine ah (aB _ aa rfl rfl dt) ?_
    | refine ah (aH _ aa rfl rfl (by first | rfl | exact an _ _ ab | exact ar _ _ ab | assumption | exact an _ _ ab) rfl) ?_
  refine ah (hZ _ _ _ aa rfl 1 (d.pend.length+1) (.lit rfl rfl) .dflt ab ab hsl rfl) ?_
  first
    | refine ah (au _ aa rfl rfl rfl) ?_
    | refine ah (aw _ aa rfl rfl) ?_
  refine ah (aM _ _ aa rfl rfl rfl rfl (Nat.le_of_ble_eq_true rfl) rfl) ?_
  refine ak (hK6 _ ?_)
  clear hK6;try clear K6
  refine al fun K9 hK9=> ?_
  refine ai ?_
  first
    | refine ah (aE _ aa rfl rfl rfl rfl) ?_
    | refine ah (aD _ aa rfl rfl (by first | rfl | assumption) rfl) ?_
    | refine ah (aA _ aa rfl (by first | rfl | assumption) rfl) ?_
  refine ah (aM _ _ aa rfl rfl rfl rfl (Nat.le_of_ble_eq_true rfl) rfl) ?_
  refine ak (hK9 _ ?_)
  clear hK9;try clear K9
  refine bp ?_
  exact bS (.inr rfl) rfl (.cellA aa rfl rfl rfl) (Le.out [] [(9,0)] (.agg rfl (aj (iO rfl rfl hl3.symm (congrArg (dZ d.cells) ht).symm) (aj (cb hl2 rfl) ap))) rfl rfl rfl ⟨rfl,trivial⟩ trivial)
theorem gP (d:Dk) (h1:d.cells.length≤1000000) (h2:d.pend.length≤1000000) (ho:el d) (c v:Int):
    Spec Try.prog 7 (bq [cm d, .v (.int .i64 c), .v (.int .i64 v)] []) (bc (cm (d.write c v)) []):=by
  unfold Dk.write
  by_cases h0:c < 0
  · rw [if_pos (.inl h0)];exact gZ d h1 h2 c v h0
  by_cases hb:(d.cells.length:Int)≤c
  · rw [if_pos (.inr hb)];exact hT d h1 h2 c v ab hb
  rw [if_neg ab]
  by_cases hr:4 < d.pend.length+1
  · rw [if_pos hr];exact gT d h1 h2 c v ho ab ab hr
  rw [if_neg hr];exact dj d h1 h2 c v ab ab ab
theorem eK: ∀ (l:List (Int×Int)) (b:List Bool) (k:Nat),k < l.length→k < b.length→kept (l.take (k+1)) b=kept (l.take k) b++(if b.getD k false=true then [l.getD k (0,0)] else [])
  | [],_,_,h,_=> by simp at h
  | _::_,[],_,_,h=> by simp at h
  | x::l,y::b,0,_,_=> by cases y <;> simp [kept] <;> cases l <;> simp [kept]
  | x::l,y::b,k+1,h,hb=> by
    have:=eK l b k (by simpa using h) (by simpa using hb)
    cases y <;> simp [kept,this]
theorem gQ: ∀ (l:List (Int×Int)) (b:List Bool) (k:Nat),b.length≤k→kept (l.take (k+1)) b=kept (l.take k) b
  | [],_,_,_=> by simp
  | _::_,[],_,_=> by simp [kept]
  | x::l,y::b,0,h=> by simp at h
  | x::l,y::b,k+1,h=> by
    have:=gQ l b k (by simpa using h)
    cases y <;> simp [kept,this]
set_option maxHeartbeats 1000000 in
theorem fk (d:Dk) (h1:d.cells.length≤1000000) (h2:d.pend.length≤1000000) (ho:el d) (b:List Bool) (hb:b.length≤1000000):
    Spec Try.prog 10 (bq [cm d, .sl b.length (cA b)] []) (bc (.agg [.ref (0,8) 0 d.cells.length, .v (.slice none 0 0)]) [((0,8), .row 3 1 (bG (d.crash b).cells))]):=by
  have hd:=ca d h1 h2
  have hlz:(d.crash b).cells.length=d.cells.length:=bF _ _
  refine Spec.ofN Try.func10 rfl Try.ntmps10 rfl ?_
  refine al fun K1 hK1=> ?_
  refine ai ?_
  refine ah (bC (2,0) _ rfl rfl) ?_
  refine ah (aP (4,0) aa rfl rfl) ?_
  refine ak (hK1 _ ?_)
  clear hK1;try clear K1
  refine al fun K2 hK2=> ?_
  refine ai ?_
  first
    | refine ah (aE _ aa rfl rfl rfl rfl) ?_
    | refine ah (aD _ aa rfl rfl (by first | rfl | assumption) rfl) ?_
    | refine ah (aA _ aa rfl (by first | rfl | assumption) rfl) ?_
  refine ah (bW aa [((0,8),(9,0)),((1,8),(9,1))] ?_ (hd.toI) trivial ⟨rfl,rfl,trivial⟩ ac) ?_
  · repeat' (first | exact aW | refine aQ ?_ ?_ | exact Lv.v | exact bd (by assumption) | exact bd ab | exact Lv.sl | exact Lv.fp | exact Lv.nil | exact aC rfl rfl | exact aZ rfl | refine Lv.agg rfl ?_ | refine Lv.fn rfl ?_ rfl ?_ | refine Lv.ifc ?_ | exact ap | refine aj ?_ ?_)
  refine ah (aP (5,0) aa rfl rfl) ?_
  refine ah (aM _ _ aa rfl rfl rfl rfl (Nat.le_of_ble_eq_true rfl) rfl) ?_
  refine ak (hK2 _ ?_)
  clear hK2;try clear K2
  refine al fun K3 hK3=> ?_
  refine al fun K4 hK4=> ?_
  refine bz (Le.frzB (ys:=cN d.pend) (5,0) 1 rfl rfl rfl rfl (by rw [List.drop_zero,en]) (by rw [aU];omega)) ?_
  refine ai ?_
  first
    | refine ah (au _ aa rfl rfl rfl) ?_
    | refine ah (aw _ aa rfl rfl) ?_
  first
    | refine ah (aB _ aa rfl rfl dt) ?_
    | refine ah (aH _ aa rfl rfl (by first | rfl | exact an _ _ ab | exact ar _ _ ab | assumption | exact an _ _ ab) rfl) ?_
  refine ah (bl _ aa rfl) ?_
  refine ah (am _ aR) ?_
  refine ak (hK4 _ ?_)
  clear hK4;try clear K4
  refine aN ?_
  refine bn (α:=Nat) (fun k=> k≤d.pend.length) 36 [(1,_),(4,_),(5,_),(11,_),(12,_)] [((4,0),_),((5,0),_)] (fun k=> [(13, .v (.int .i64 (k:Int)))]) (fun k=> [((9,0), .row 3 1 (bG (dZ d.cells (kept (d.pend.take k) b))))]) [] [] (fun k=> d.pend.length - k) 0 ?_ (by
    refine Le.mkJ [] [] rfl ?_ ?_ trivial trivial ?_
    · exact ⟨(iS rfl),(iP rfl),(iP rfl),(iS rfl),(iV rfl),(bd (by first | rfl | omega | (simp;done) | (simp;omega) | assumption)),trivial⟩
    · exact ⟨(ay rfl rfl rfl),(ay rfl rfl rfl),(bJ rfl rfl rfl (by first | rfl | omega | (simp;done) | (simp;omega) | assumption)),trivial⟩
    kernel_rfl) ?_
  · first | omega | trivial | exact ⟨by omega,by omega⟩
  intro k hk
  refine al fun K5 hK5=> ?_
  refine ai ?_
  first
    | refine ah (aL _ _ rfl rfl (by assumption)) ?_
    | refine ah (aL _ _ rfl rfl rfl) ?_
  refine ak (hK5 _ ?_)
  clear hK5;try clear K5
  refine al fun K6 hK6=> ?_
  refine aY rfl (fun hc14=> ?_) (fun hc14=> ?_)
  · skip
    have hia:=bM d.pend k ab
    have hm:d.pend.getD k (0,0)∈d.pend:=by rw [List.getD_eq_getElem?_getD,List.getElem?_eq_getElem ab];exact List.getElem_mem _
    have q0:=ho _ hm
    have q1:=eK d.pend b k ab
    have q2:=gQ d.pend b k
    have ql:(dZ d.cells (kept (d.pend.take k) b)).length=d.cells.length:=bF _ _
    have hap:=cW (dZ d.cells (kept (d.pend.take k) b)) [d.pend.getD k (0,0)] (by simp) ab (fun x hx=> by rw [List.mem_singleton.1 hx,ql];exact q0)
    have hap:Spec Try.prog 25 (cv [.ref (0,9) 0 d.cells.length, .sl 1 (cN [d.pend.getD k (0,0)])] [((0,9), .row 3 1 (bG (dZ d.cells (kept (d.pend.take k) b))))]) (bY (.tup []) [((0,9), .row 3 1 (bG (dZ (dZ d.cells (kept (d.pend.take k) b)) [d.pend.getD k (0,0)])))] [(0,9)] [(0,9)]):=by rw [ql] at hap;exact hap
    rw [← iB] at hap
    generalize d.pend.getD k (0,0)=w at hia q0 q1 hap
    refine aT (hK6 _ ?_)
    clear hK6;try clear K6
    refine al fun K7 hK7=> ?_
    refine aN ?_
    refine al fun K8 hK8=> ?_
    refine ai ?_
    refine ah (am _ aR) ?_
    first
      | refine ah (bB _ _ aa rfl rfl _ rfl ab (by first | assumption | decide | (simp only [aF,aV,bm,aF,aU];omega) | (simp;done) | (simp;omega) | (simp [bG,cA];omega)) (by first | exact Nat.mul_one _ | rfl | omega)) ?_
      | refine ah (bB _ _ aa rfl rfl (Int.toNat _) (Int.toNat_of_nonneg ab).symm ab (by first | assumption | decide | (simp only [aF,aV,bm,aF,aU];omega) | (simp;done) | (simp;omega) | (simp [bG,cA];omega)) (by first | exact Nat.mul_one _ | rfl | omega)) ?_
    refine ah (aA _ aa rfl (by exact hia) rfl) ?_
    refine ah (aP (7,0) aa rfl rfl) ?_
    refine ah (az _ aR) ?_
    refine ah (aM _ _ aa rfl rfl rfl rfl (Nat.le_of_ble_eq_true rfl) rfl) ?_
    refine ak (hK8 _ ?_)
    clear hK8;try clear K8
    refine al fun K9 hK9=> ?_
    refine ai ?_
    refine ah (am _ aR) ?_
    refine ah (am _ dz) ?_
    refine ah (bl _ aa rfl) ?_
    first
      | refine ah (aL _ _ rfl rfl (by assumption)) ?_
      | refine ah (aL _ _ rfl rfl rfl) ?_
    refine ah (am _ cw) ?_
    refine fH (fun hg22=> ?_) (fun hg22=> ?_)
    · skip
      refine aI rfl rfl (am _ dz) ?_
      refine aI rfl rfl (am _ aR) ?_
      first
        | refine aI rfl rfl (bB _ _ aa rfl rfl _ rfl ab (by first | assumption | decide | (simp only [aF,aV,bm,aF,aU];omega) | (simp;done) | (simp;omega) | (simp [bG,cA];omega)) (by first | exact Nat.mul_one _ | rfl | omega)) ?_
        | refine aI rfl rfl (bB _ _ aa rfl rfl (Int.toNat _) (Int.toNat_of_nonneg ab).symm ab (by first | assumption | decide | (simp only [aF,aV,bm,aF,aU];omega) | (simp;done) | (simp;omega) | (simp [bG,cA];omega)) (by first | exact Nat.mul_one _ | rfl | omega)) ?_
      refine aI rfl rfl (ei _ aa rfl (by exact ar _ _ ab) rfl) ?_
      refine ah (bu _ _ _ rfl cw) ?_
      refine ak (hK9 _ ?_)
      clear hK9;try clear K9
      refine aY rfl (fun hc27=> ?_) (fun hc27=> ?_)
      · skip
        refine bz (σ':=bi 36 [(1,_),(4,_),(5,_),(7,_),(11,_),(12,_),(13,_)] [((4,0),_),((5,0),_),((9,0),_),((7,0),_)] [] []) (by
          refine Le.mkJ [] [] rfl ?_ ?_ trivial trivial ?_
          · exact ⟨(iS rfl),(iP rfl),(iP rfl),(iP rfl),(iS rfl),(iV rfl),(iV rfl),trivial⟩
          · exact ⟨(ay rfl rfl rfl),(ay rfl rfl rfl),(ay rfl rfl rfl),(ay rfl rfl rfl),trivial⟩
          kernel_rfl) ?_
        refine ai ?_
        first
          | refine ah (au _ aa rfl rfl rfl) ?_
          | refine ah (aw _ aa rfl rfl) ?_
        first
          | refine ah (aB _ aa rfl rfl dB) ?_
          | refine ah (aH _ aa rfl rfl (by first | rfl | exact an _ _ ab | exact ar _ _ ab | assumption | exact an _ _ ab) rfl) ?_
        first
          | refine ah (aE _ aa rfl rfl rfl rfl) ?_
          | refine ah (aD _ aa rfl rfl (by first | rfl | assumption) rfl) ?_
          | refine ah (aA _ aa rfl (by first | rfl | assumption) rfl) ?_
        refine ah (bO _ _ aa rfl ae (by simp <;> rfl) ag (by exact (rfl:_=some (cN [w])))) ?_
        refine ah (bW aa [((0,9),(9,0))] ?_ (hap) ⟨⟨rfl,⟨_,rfl, .rowE rfl⟩,rfl⟩,trivial⟩ ⟨rfl,trivial⟩ ac) ?_
        · repeat' (first | exact aW | refine aQ ?_ ?_ | exact Lv.v | exact bd (by assumption) | exact bd ab | exact Lv.sl | exact Lv.fp | exact Lv.nil | exact aC rfl rfl | exact aZ rfl | refine Lv.agg rfl ?_ | refine Lv.fn rfl ?_ rfl ?_ | refine Lv.ifc ?_ | exact ap | refine aj ?_ ?_)
        refine ak (hK7 _ ?_)
        clear hK7;try clear K7
        refine ai ?_
        first
          | refine ah (aK _ _ rfl rfl (bQ ab)) ?_
          | refine ah (aK _ _ rfl rfl rfl) ?_
        refine ah (am _ aR) ?_
        refine ak ?_
        refine ⟨k+1,?_,?_,?_⟩
        · first | omega | trivial | exact ⟨by omega,by omega⟩
        · skip
          refine Le.mkJ [] [] rfl ?_ ?_ trivial trivial ?_
          · exact ⟨(iS rfl),(iP rfl),(iP rfl),(iS rfl),(iV rfl),(bd (by first | rfl | omega | (rw [q1 ab,if_pos hc27]) | (simp;done) | (simp;omega) | assumption)),trivial⟩
          · exact ⟨(ay rfl rfl rfl),(ay rfl rfl rfl),(bJ rfl rfl rfl (by first | rfl | omega | (rw [q1 ab,if_pos hc27]) | (simp;done) | (simp;omega) | assumption)),trivial⟩
          kernel_rfl
        omega
      refine aT (hK7 _ ?_)
      clear hK7;try clear K7
      refine bz (σ':=bi 36 [(1,_),(4,_),(5,_),(11,_),(12,_),(13,_)] [((4,0),_),((5,0),_),((9,0),_)] [] []) (by
        refine Le.mkJ [] [] rfl ?_ ?_ trivial trivial ?_
        · exact ⟨(iS rfl),(iP rfl),(iP rfl),(iS rfl),(iV rfl),(iV rfl),trivial⟩
        · exact ⟨(ay rfl rfl rfl),(ay rfl rfl rfl),(ay rfl rfl rfl),trivial⟩
        kernel_rfl) ?_
      refine ai ?_
      first
        | refine ah (aK _ _ rfl rfl (bQ ab)) ?_
        | refine ah (aK _ _ rfl rfl rfl) ?_
      refine ah (am _ aR) ?_
      refine ak ?_
      refine ⟨k+1,?_,?_,?_⟩
      · first | omega | trivial | exact ⟨by omega,by omega⟩
      · skip
        refine Le.mkJ [] [] rfl ?_ ?_ trivial trivial ?_
        · exact ⟨(iS rfl),(iP rfl),(iP rfl),(iS rfl),(iV rfl),(bd (by first | rfl | omega | (rw [q1 ab,if_neg (by rw [hc27];decide),List.append_nil]) | (simp;done) | (simp;omega) | assumption)),trivial⟩
        · exact ⟨(ay rfl rfl rfl),(ay rfl rfl rfl),(bJ rfl rfl rfl (by first | rfl | omega | (rw [q1 ab,if_neg (by rw [hc27];decide),List.append_nil]) | (simp;done) | (simp;omega) | assumption)),trivial⟩
        kernel_rfl
      omega
    refine bP rfl rfl ag ?_
    refine bP rfl rfl ag ?_
    refine bP rfl rfl ag ?_
    refine bP rfl rfl ag ?_
    refine ah (bu _ _ _ rfl cw) ?_
    refine ak (hK9 _ ?_)
    clear hK9;try clear K9
    refine cq rfl rfl ?_
    refine aT (hK7 _ ?_)
    clear hK7;try clear K7
    refine bz (σ':=bi 36 [(1,_),(4,_),(5,_),(11,_),(12,_),(13,_)] [((4,0),_),((5,0),_),((9,0),_)] [] []) (by
      refine Le.mkJ [] [] rfl ?_ ?_ trivial trivial ?_
      · exact ⟨(iS rfl),(iP rfl),(iP rfl),(iS rfl),(iV rfl),(iV rfl),trivial⟩
      · exact ⟨(ay rfl rfl rfl),(ay rfl rfl rfl),(ay rfl rfl rfl),trivial⟩
      kernel_rfl) ?_
    refine ai ?_
    first
      | refine ah (aK _ _ rfl rfl (bQ ab)) ?_
      | refine ah (aK _ _ rfl rfl rfl) ?_
    refine ah (am _ aR) ?_
    refine ak ?_
    refine ⟨k+1,?_,?_,?_⟩
    · first | omega | trivial | exact ⟨by omega,by omega⟩
    · skip
      refine Le.mkJ [] [] rfl ?_ ?_ trivial trivial ?_
      · exact ⟨(iS rfl),(iP rfl),(iP rfl),(iS rfl),(iV rfl),(bd (by first | rfl | omega | (rw [q2 ab]) | (simp;done) | (simp;omega) | assumption)),trivial⟩
      · exact ⟨(ay rfl rfl rfl),(ay rfl rfl rfl),(bJ rfl rfl rfl (by first | rfl | omega | (rw [q2 ab]) | (simp;done) | (simp;omega) | assumption)),trivial⟩
      kernel_rfl
    omega
  refine bv ?_
  refine id (hK3 _ ?_)
  clear hK3;try clear K3
  refine al fun K10 hK10=> ?_
  refine ai ?_
  first
    | refine ah (au _ aa rfl rfl rfl) ?_
    | refine ah (aw _ aa rfl rfl) ?_
  refine ah (aM _ _ aa rfl rfl rfl rfl (Nat.le_of_ble_eq_true rfl) rfl) ?_
  refine ak (hK10 _ ?_)
  clear hK10;try clear K10
  refine al fun K11 hK11=> ?_
  refine ai ?_
  first
    | refine ah (aE _ aa rfl rfl rfl rfl) ?_
    | refine ah (aD _ aa rfl rfl (by first | rfl | assumption) rfl) ?_
    | refine ah (aA _ aa rfl (by first | rfl | assumption) rfl) ?_
  refine ah (aM _ _ aa rfl rfl rfl rfl (Nat.le_of_ble_eq_true rfl) rfl) ?_
  refine ak (hK11 _ ?_)
  clear hK11;try clear K11
  refine bp ?_
  exact bS (.inr rfl) rfl (.cellA aa rfl rfl rfl) (Le.out [((0,8),(9,0))] [] (.agg rfl (aj (aC rfl rfl) (aj .v ap))) rfl rfl rfl trivial ⟨⟨rfl,⟨_,rfl, .rowE (by unfold Dk.crash;rw [List.take_of_length_le ab])⟩,rfl⟩,trivial⟩)
theorem eZ (d:Dk) (h1:d.cells.length≤1000000) (h2:d.pend.length≤1000000) (ho:el d) (b:List Bool) (hb:b.length≤1000000):
    Spec Try.prog 10 (bq [cm d, .sl b.length (cA b)] []) (bc (cm (d.crash b)) []):=
  (fk d h1 h2 ho b hb).toI.mono (Le.outO [] [(0,8)] (.agg rfl (aj (iO rfl rfl (bF _ _).symm rfl) (aj .nil ap))) rfl rfl rfl ⟨rfl,trivial⟩ trivial)
end Go.Proofs.Ytmjnackchaahbaa
