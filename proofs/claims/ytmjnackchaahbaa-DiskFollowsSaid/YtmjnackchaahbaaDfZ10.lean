/- part 10 -/
import Derived.Shelf.SlIterI.Nil
import Derived.Shelf.SortM.Plain
import Derived.Shelf.SortM.SortNone
import Derived.Ground.GgzProg
import Derived.Ground.SlgmProg
import Derived.Test.YtmjnackchaahbaaDfZ9
set_option linter.unusedSimpArgs false
set_option linter.unusedVariables false
namespace Go.Proofs.Ytmjnackchaahbaa
open Go.RowKit Go.Maps Go.Sort Go.Shelf

def fU:Go.Shelf.Ren:=⟨fun | 7=> 29 | 10=> 65 | n=> n,fun | 23=> 72 | 26=> 3 | 3=> 73 | 28=> 76 | 0=> 0 | 27=> 75 | 33=> 85 | 4=> 4 | n=> n,fun | n=> n⟩
theorem mQ:Go.Proofs.SlLaysZI.n7 Try.prog fU:=
  { mixed:=by kernel_rfl,
    f7:=⟨Try.f29.name,by decide,Try.func29.trans (congrArg some ae)⟩,
    f10:=⟨Try.f65.name,by decide,Try.func65.trans (congrArg some ae)⟩,
    t0:=Try.underlying0,
    a0:=Try.isAgg0,
    z0:=Try.sizeOf0,
    v0:=Try.zeroValue0,
    t4:=Try.underlying4,
    a4:=Try.isAgg4,
    z4:=Try.sizeOf4,
    v4:=Try.zeroValue4,
    t23:=Try.underlying72,
    a23:=Try.isAgg72,
    z23:=Try.sizeOf72,
    v23:=Try.zeroValue72,
    t26:=Try.underlying3,
    a26:=Try.isAgg3,
    z26:=Try.sizeOf3,
    v26:=Try.zeroValue3,
    t27:=Try.underlying75,
    a27:=Try.isAgg75,
    z27:=Try.sizeOf75,
    v27:=Try.zeroValue75,
    t28:=Try.underlying76,
    a28:=Try.isAgg76,
    z28:=Try.sizeOf76,
    v28:=Try.zeroValue76,
    t33:=Try.underlying85,
    a33:=Try.isAgg85,
    z33:=Try.sizeOf85,
    v33:=Try.zeroValue85 }
def eF:Go.Shelf.Ren:=⟨fun | 6=> 28 | 8=> 63 | 9=> 64 | 11=> 71 | 13=> 73 | 12=> 72 | 23=> 83 | 24=> 84 | 14=> 74 | 15=> 75 | 16=> 76 | 17=> 77 | 18=> 78 | 19=> 79 | 20=> 80 | 21=> 81 | 22=> 82 | 25=> 85 | 26=> 86 | 27=> 87 | 28=> 88 | 29=> 89 | 30=> 90 | 31=> 91 | n=> n,fun | 26=> 3 | 28=> 76 | 24=> 22 | 0=> 0 | 3=> 3 | 37=> 78 | 48=> 100 | 50=> 102 | 4=> 4 | 40=> 93 | 39=> 92 | 45=> 97 | 5=> 5 | 9=> 9 | 51=> 103 | 55=> 107 | 57=> 109 | 58=> 110 | 33=> 85 | n=> n,fun | n=> n⟩
theorem kL:Go.Proofs.SlLaysZI.n6 Try.prog eF:=
  { mixed:=by kernel_rfl,
    f6:=⟨Try.f28.name,by decide,Try.func28.trans (congrArg some ae)⟩,
    f8:=⟨Try.f63.name,by decide,Try.func63.trans (congrArg some ae)⟩,
    f11:=⟨Try.f71.name,by decide,Try.func71.trans (congrArg some ae)⟩,
    t0:=Try.underlying0,
    a0:=Try.isAgg0,
    z0:=Try.sizeOf0,
    v0:=Try.zeroValue0,
    t24:=Try.underlying22,
    a24:=Try.isAgg22,
    z24:=Try.sizeOf22,
    v24:=Try.zeroValue22,
    t26:=Try.underlying3,
    a26:=Try.isAgg3,
    z26:=Try.sizeOf3,
    v26:=Try.zeroValue3,
    t28:=Try.underlying76,
    a28:=Try.isAgg76,
    z28:=Try.sizeOf76,
    v28:=Try.zeroValue76,
    i26:=by kernel_rfl }
def jo:Go.Shelf.Ren:=⟨fun | 5=> 64 | 8=> 73 | 7=> 72 | 19=> 83 | 20=> 84 | 10=> 74 | 11=> 75 | 12=> 76 | 13=> 77 | 14=> 78 | 15=> 79 | 16=> 80 | 17=> 81 | 18=> 82 | 30=> 85 | 31=> 86 | 32=> 87 | 33=> 88 | 34=> 89 | 35=> 90 | 40=> 91 | n=> n,fun | 23=> 22 | 25=> 3 | 3=> 3 | 32=> 78 | 22=> 22 | 0=> 0 | 44=> 100 | 46=> 102 | 4=> 4 | 36=> 93 | 35=> 92 | 41=> 97 | 5=> 5 | 9=> 9 | 53=> 103 | 57=> 107 | 63=> 109 | 64=> 110 | n=> n,fun | n=> n⟩
theorem jU:Go.Proofs.SlLaysM.n5 Try.prog jo:=
  { mixed:=by kernel_rfl,
    f5:=⟨Try.f64.name,by decide,Try.func64.trans (congrArg some ae)⟩,
    f7:=⟨Try.f72.name,by decide,Try.func72.trans (congrArg some ae)⟩,
    f8:=Try.func73.trans (congrArg some ae),
    f10:=⟨Try.f74.name,by decide,Try.func74.trans (congrArg some ae)⟩,
    f11:=⟨Try.f75.name,by decide,Try.func75.trans (congrArg some ae)⟩,
    f12:=⟨Try.f76.name,by decide,Try.func76.trans (congrArg some ae)⟩,
    f13:=⟨Try.f77.name,by decide,Try.func77.trans (congrArg some ae)⟩,
    f14:=⟨Try.f78.name,by decide,Try.func78.trans (congrArg some ae)⟩,
    f15:=⟨Try.f79.name,by decide,Try.func79.trans (congrArg some ae)⟩,
    f16:=⟨Try.f80.name,by decide,Try.func80.trans (congrArg some ae)⟩,
    f17:=⟨Try.f81.name,by decide,Try.func81.trans (congrArg some ae)⟩,
    f18:=⟨Try.f82.name,by decide,Try.func82.trans (congrArg some ae)⟩,
    f19:=Try.func83.trans (congrArg some ae),
    f20:=Try.func84.trans (congrArg some ae),
    f30:=⟨Try.f85.name,by decide,Try.func85.trans (congrArg some ae)⟩,
    f31:=Try.func86.trans (congrArg some ae),
    f32:=Try.func87.trans (congrArg some ae),
    f33:=⟨Try.f88.name,by decide,Try.func88.trans (congrArg some ae)⟩,
    f34:=⟨Try.f89.name,by decide,Try.func89.trans (congrArg some ae)⟩,
    f35:=⟨Try.f90.name,by decide,Try.func90.trans (congrArg some ae)⟩,
    f40:=⟨Try.f91.name,by decide,Try.func91.trans (congrArg some ae)⟩,
    t0:=Try.underlying0,
    a0:=Try.isAgg0,
    z0:=Try.sizeOf0,
    v0:=Try.zeroValue0,
    t3:=Try.underlying3,
    a3:=Try.isAgg3,
    z3:=Try.sizeOf3,
    v3:=Try.zeroValue3,
    t4:=Try.underlying4,
    a4:=Try.isAgg4,
    z4:=Try.sizeOf4,
    v4:=Try.zeroValue4,
    t5:=Try.underlying5,
    a5:=Try.isAgg5,
    z5:=Try.sizeOf5,
    v5:=Try.zeroValue5,
    t9:=Try.underlying9,
    a9:=Try.isAgg9,
    z9:=Try.sizeOf9,
    v9:=Try.zeroValue9,
    t22:=Try.underlying22,
    a22:=Try.isAgg22,
    z22:=Try.sizeOf22,
    v22:=Try.zeroValue22,
    t23:=Try.underlying22,
    a23:=Try.isAgg22,
    z23:=Try.sizeOf22,
    v23:=Try.zeroValue22,
    t25:=Try.underlying3,
    a25:=Try.isAgg3,
    z25:=Try.sizeOf3,
    v25:=Try.zeroValue3,
    t32:=Try.underlying78,
    a32:=Try.isAgg78,
    z32:=Try.sizeOf78,
    v32:=Try.zeroValue78,
    t35:=Try.underlying92,
    a35:=Try.isAgg92,
    z35:=Try.sizeOf92,
    v35:=Try.zeroValue92,
    t36:=Try.underlying93,
    a36:=Try.isAgg93,
    z36:=Try.sizeOf93,
    v36:=Try.zeroValue93,
    t41:=Try.underlying97,
    a41:=Try.isAgg97,
    z41:=Try.sizeOf97,
    v41:=Try.zeroValue97,
    t44:=Try.underlying100,
    a44:=Try.isAgg100,
    z44:=Try.sizeOf100,
    v44:=Try.zeroValue100,
    t46:=Try.underlying102,
    a46:=Try.isAgg102,
    z46:=Try.sizeOf102,
    v46:=Try.zeroValue102,
    t53:=Try.underlying103,
    a53:=Try.isAgg103,
    z53:=Try.sizeOf103,
    v53:=Try.zeroValue103,
    t57:=Try.underlying107,
    a57:=Try.isAgg107,
    z57:=Try.sizeOf107,
    v57:=Try.zeroValue107,
    t63:=Try.underlying109,
    a63:=Try.isAgg109,
    z63:=Try.sizeOf109,
    v63:=Try.zeroValue109,
    t64:=Try.underlying110,
    a64:=Try.isAgg110,
    z64:=Try.sizeOf110,
    v64:=Try.zeroValue110 }
theorem od (m:Nat):AnyZI.SortsIn Try.prog eF Fence.wide m:=
  ⟨fun blk off cap ss W hH hblk hsz=> callsIn_wide.2 (AnyM.slices_Sort_int jU blk off cap ss W hH hblk hsz),
   fun p cap W=> callsIn_wide.2 (AnyM.slices_Sort_int_none jU p cap W)⟩
abbrev pq:Value→Option (DataW Unit×List MemPlace):=fun _=> some (.nil,[])
theorem kW (M:List (Int×Value)):(bM M).map (fun x=> x.key)=M.map fun p=> Value.int .i64 p.1:=by
  apply List.ext_getElem?
  intro j
  rw [List.getElem?_map,dS,List.getElem?_map]
  cases M[j]? <;> rfl
theorem gY (M:List (Int×Value)):(bM M).map (fun x=> x.born)=List.range M.length:=by
  apply List.ext_getElem?
  intro j
  rw [List.getElem?_map,dS]
  by_cases h:j < M.length
  · rw [List.getElem?_eq_getElem h,List.getElem?_range h];rfl
  rw [List.getElem?_eq_none ab,List.getElem?_eq_none (by simp;omega)];rfl
theorem lD {M:List (Int×Value)} {x:MapEntry} (h:x∈bM M): ∃ p∈M,x.key= .int .i64 p.1:=by
  obtain ⟨j,hj⟩:=List.getElem?_of_mem h
  rw [dS] at hj
  obtain ⟨p,hp,rfl⟩:=Option.map_eq_some_iff.1 hj
  exact ⟨p,List.mem_of_getElem? hp,rfl⟩
theorem nT {a:Int} (h:0≤a∧a≤1000000):(Lit.int .i64 a).wf=true:=by
  have h1:IntKind.i64.min= -9223372036854775808:=by decide
  have h2:IntKind.i64.max=9223372036854775807:=by decide
  simp only [Lit.wf,h1,h2,Bool.and_eq_true,decide_eq_true_eq]
  omega
theorem nh {P:Program} {a:Int} (hk:P.underlying 3=some (.int .i64)) (h:0≤a∧a≤1000000):keyOf P 3 (.int .i64 a)=some (.int .i64 a):=keyOf_int_mk hk (nT h)
theorem pK:nG:=by
  intro M g b w hlen hnd hrg hlt hcell hb
  have hk3:Try.prog.underlying 3=some (.int .i64):=Try.underlying3
  have hlen2:(bM M).length=M.length:=lp M
  have hrd: ∀ x∈bM M,∃ p∈M,Go.WideElems.rd Try.prog 3 pq x=some (.int .i64 p.1, .nil)∧x.key= .int .i64 p.1:=by
    intro x hx
    obtain ⟨p,hp,hkx⟩:=lD hx
    refine ⟨p,hp,?_,hkx⟩
    have:=Go.WideElems.rd_mk (P:=Try.prog) (k:=3) (R:=pq) (val:=x.val) (born:=x.born) (nh hk3 (hrg p hp)) (yv:=(.nil,[])) rfl
    rw [← hkx] at this
    exact this
  obtain ⟨E,hE⟩: ∃ E,E=((bM M).map (Go.WideElems.rg Try.prog 3 pq)).foldr DataW.insert []:=⟨_,rfl⟩
  have hperm:E.Perm ((bM M).map (Go.WideElems.rg Try.prog 3 pq)):=by rw [hE];exact Go.WideShapes.sorted_perm _
  have hkeys:((bM M).map (Go.WideElems.rg Try.prog 3 pq)).map (fun p=> Go.intOf p.1)=M.map (·.1):=by
    apply List.ext_getElem?
    intro j
    rw [List.getElem?_map,List.getElem?_map,List.getElem?_map]
    cases hj:(bM M)[j]? with
    | none=>
      rw [dS] at hj
      have:=Option.map_eq_none_iff.1 hj
      rw [this];rfl
    | some x=>
      obtain ⟨q,_,h1,h2⟩:=hrd x (List.mem_of_getElem? hj)
      rw [dS] at hj
      obtain ⟨p,hp,rfl⟩:=Option.map_eq_some_iff.1 hj
      rw [hp]
      simp only [Option.map_some,Go.WideElems.rg_of h1,Go.intOf]
      have h2:Value.int .i64 p.1=Value.int .i64 q.1:=h2
      have h3:p.1=q.1:=by injection h2
      rw [h3]
  have hown:w.ownsMap Try.prog 3 pq b M.length (.map E):=by
    refine ⟨(bM M).toArray,M.length,hb,⟨by simp only [List.size_toArray];rw [hlen2];unfold maxLen;omega,⟨?_,?_,?_⟩,fun x hx=> ?_⟩,by simp only [List.size_toArray];omega,by rw [hE]⟩
    · intro x hx
      have h1:x.born∈(bM M).map (fun x=> x.born):=List.mem_map_of_mem (by simpa using hx)
      rw [gY] at h1
      simpa using h1
    · show ((bM M).map (fun x=> x.born)).Nodup
      rw [gY];exact List.nodup_range
    · show ((bM M).map (fun x=> x.key)).Nodup
      rw [kW]
      have:(M.map fun p=> Value.int .i64 p.1)=(M.map (·.1)).map (fun n=> Value.int .i64 n):=by rw [List.map_map];rfl
      rw [this]
      exact hnd.map (fun n=> Value.int .i64 n) fun a b h e=> h (by cases e;rfl)
    obtain ⟨p,_,h1,_⟩:=hrd x (by simpa using hx)
    exact ⟨_,h1⟩
  have hsz:Maps.size (.map E:DataW Unit)=M.length:=by
    show E.length=_
    rw [hperm.length_eq,List.length_map,hlen2]
  have hseq:SeqGives Fence.wide 2 Try.prog 65 #[.pointer (some ⟨g,0,none⟩)] encZ (fun ss=> ss.Perm (intKeys (.map E:DataW Unit))) (Maps.size (.map E:DataW Unit)) w:=
    AnyZI.keys_gives (ρ:=fU) { mQ with } Fence.wide 2 trivial rfl ab g b M.length (.map E) w hlt hcell hown
  have cS:=AnyZI.sorted_in kL Fence.wide 5 trivial trivial trivial trivial rfl ab (od _) (enters_of Try.func64 ae rfl) 65 #[.pointer (some ⟨g,0,none⟩)] trivial (enters_of Try.func65 ae rfl) _ _ (by rw [hsz];unfold maxLen;omega) (by rw [hsz];omega) _ hseq
  change CallsIn _ _ Try.prog 28 _ _ _ at cS
  refine ((callsIn_wide (n:=5)).1 cS).mono ?_
  rintro e w' ⟨v,ss,rfl,hS,hrow,_,hbl⟩
  refine ⟨v,ss,rfl,?_,hrow,hbl⟩
  have h1:ss.Perm (E.map fun p=> Go.intOf p.1):=hS
  have h2:=hperm.map (fun p=> Go.intOf p.1)
  rw [hkeys] at h2
  exact h1.trans h2
theorem pN:lR:=ll pK

def nJ (w:Int×Int):List PV:=[.v (.int .i64 w.1), .v (.int .i64 w.2)]
def gd (l:List (Int×Int)):List PV:=l.flatMap nJ
theorem bU (l:List (Int×Int)):(gd l).length=l.length*2:=iB nJ 2 (fun _=> rfl) l
theorem gD (l:List (Int×Int)) (k:Nat) (h:k < l.length):PV.ups (((gd l).drop (k*2)).take 2)=[.v (.int .i64 (l.getD k (0,0)).1), .v (.int .i64 (l.getD k (0,0)).2)]:=by
  have e:l.getD k (0,0)=l[k]:=by rw [List.getD_eq_getElem?_getD,List.getElem?_eq_getElem h];rfl
  rw [e,show ((gd l).drop (k*2)).take 2=nJ l[k] from lT nJ 2 (fun _=> rfl) l k h];rfl
theorem iX (l:List (Int×Int)) (x:Int×Int):gd l++nJ x=gd (l++[x]):=kt nJ l x
theorem iH (l:List (Int×Int)):(gd l).take (l.length*2)=gd l:=List.take_of_length_le (by rw [bU];exact Nat.le_refl _)
theorem lW (c:List Int) (l:List (Int×Int)) {k:Nat} (h:k < l.length):gh c (l.take (k+1))=(gh c (l.take k)).set (l.getD k (0,0)).1.toNat (l.getD k (0,0)).2:=by
  have e:l.take (k+1)=l.take k++[l.getD k (0,0)]:=by
    rw [List.take_add_one,List.getElem?_eq_getElem h,List.getD_eq_getElem?_getD,List.getElem?_eq_getElem h];rfl
  rw [e,fv];rfl
abbrev sk (d:Dk):List AV:=[.sl d.cells.length (ce d.cells), .sl d.pend.length (gd d.pend)]
abbrev eZ (d:Dk):AV:= .agg (sk d)
theorem oa {ρ:aw→aw} {σ:St} {F:aw→Bool} {id:aw} {e:TypeId} {n m:Nat} {l r:List Int} (hid:σ.ob id= .obj (.row e 1 (ce l))) (hF:F id=true) (hm:n=m) (hl:l=r) (hn:m=r.length:=by (first | rfl | omega | simp_all)):Lv ρ σ F (.sl m (ce r)) (.ref id 0 n):=by
  subst hm;subst hl
  exact lc hid hF (by rw [bk,Nat.mul_one];exact hn) rfl
theorem dt (d:Dk) (h1:d.cells.length≤1000000) (h2:d.pend.length≤1000000):
    Spec Try.prog 24 (bq [eZ d] []) (aX (.agg [.ref (0,8) 0 d.cells.length, .ref (1,8) 0 d.pend.length]) [((0,8), .row 3 1 (ce d.cells)),((1,8), .row 35 2 (gd d.pend))]):=by
  refine Spec.ofN Try.func24 rfl Try.ntmps24 rfl ?_
  refine ay fun K1 hK1=> ?_
  refine an ?_
  refine aj (cC (1,0) _ rfl rfl) ?_
  refine aj (bb (2,0) aa rfl rfl) ?_
  refine ap (hK1 _ ?_)
  clear hK1;try clear K1
  refine ay fun K2 hK2=> ?_
  refine an ?_
  first
    | refine aj (aA _ aa rfl rfl rfl) ?_
    | refine aj (aC _ aa rfl rfl) ?_
  first
    | refine aj (aK _ aa rfl rfl et) ?_
    | refine aj (aN _ aa rfl rfl (by first | rfl | exact ax _ _ ab | exact aG _ _ ab | assumption | exact ax _ _ ab) rfl) ?_
  refine aj (cL _ aa rfl) ?_
  first
    | refine aj (jV (7,0) _ _ aa rfl rfl _ rfl rfl ab rfl rfl) ?_
    | refine aj (jV (7,0) _ _ aa rfl rfl (Int.toNat _) (Int.toNat_of_nonneg ab).symm (Int.toNat_of_nonneg ab).symm ab rfl rfl) ?_
  refine aj (bf _ aa rfl (by exact iU)) ?_
  refine aj (bb (3,0) aa rfl rfl) ?_
  refine aj (aT _ _ aa rfl rfl rfl rfl (Nat.le_of_ble_eq_true rfl) rfl) ?_
  refine ap (hK2 _ ?_)
  clear hK2;try clear K2
  refine ay fun K3 hK3=> ?_
  refine an ?_
  first
    | refine aj (aA _ aa rfl rfl rfl) ?_
    | refine aj (aC _ aa rfl rfl) ?_
  first
    | refine aj (aK _ aa rfl rfl gx) ?_
    | refine aj (aN _ aa rfl rfl (by first | rfl | exact ax _ _ ab | exact aG _ _ ab | assumption | exact ax _ _ ab) rfl) ?_
  first
    | refine aj (aA _ aa rfl rfl rfl) ?_
    | refine aj (aC _ aa rfl rfl) ?_
  first
    | refine aj (aK _ aa rfl rfl et) ?_
    | refine aj (aN _ aa rfl rfl (by first | rfl | exact ax _ _ ab | exact aG _ _ ab | assumption | exact ax _ _ ab) rfl) ?_
  refine aj (pB _ _ aa rfl rfl (by simp [eW]) (.sl (by rw [bk,Nat.mul_one])) rfl rfl) ?_
  refine ap (hK3 _ ?_)
  clear hK3;try clear K3
  refine ay fun K4 hK4=> ?_
  refine an ?_
  first
    | refine aj (aA _ aa rfl rfl rfl) ?_
    | refine aj (aC _ aa rfl rfl) ?_
  first
    | refine aj (aK _ aa rfl rfl et) ?_
    | refine aj (aK _ aa rfl rfl gx) ?_
    | refine aj (aK _ aa rfl rfl (rfl:_=some (AV.v (.slice _ _ _)))) ?_
    | refine aj (aK _ aa rfl rfl (rfl:_=some (AV.z))) ?_
    | refine aj (aN _ aa rfl rfl (by first | rfl | exact ax _ _ ab | exact aG _ _ ab | assumption | exact ax _ _ ab) rfl) ?_
  first
    | refine aj (aA _ aa rfl rfl rfl) ?_
    | refine aj (aC _ aa rfl rfl) ?_
  first
    | refine aj (aK _ aa rfl rfl et) ?_
    | refine aj (aN _ aa rfl rfl (by first | rfl | exact ax _ _ ab | exact aG _ _ ab | assumption | exact ax _ _ ab) rfl) ?_
  refine aj (nO (18,0) _ _ aa rfl (.sl (by rw [bU])) ab rfl) ?_
  first
    | refine aj (aA _ aa rfl rfl rfl) ?_
    | refine aj (aC _ aa rfl rfl) ?_
  refine aj (aT _ _ aa rfl rfl rfl rfl (Nat.le_of_ble_eq_true rfl) rfl) ?_
  refine ap (hK4 _ ?_)
  clear hK4;try clear K4
  refine ay fun K5 hK5=> ?_
  refine bP (σ':=bC 21 [(2,_),(3,_)] [((2,0),_),((7,0),_),((3,0),_),((18,0),_)] [] []) (by
    refine Le.mkJ [] [] rfl ?_ ?_ trivial trivial ?_
    · exact ⟨(iP rfl),(iP rfl),trivial⟩
    · exact ⟨(bn rfl rfl rfl),(bn rfl rfl rfl),(bn rfl rfl rfl),(bn rfl rfl rfl),trivial⟩
    kernel_rfl) ?_
  refine an ?_
  first
    | refine aj (bl _ aa rfl rfl rfl rfl) ?_
    | refine aj (bm _ aa rfl rfl (by first | rfl | assumption) rfl) ?_
    | refine aj (bg _ aa rfl (by first | rfl | assumption) rfl) ?_
  refine aj (aT _ _ aa rfl rfl rfl rfl (Nat.le_of_ble_eq_true rfl) rfl) ?_
  refine ap (hK5 _ ?_)
  clear hK5;try clear K5
  refine br ?_
  exact dk (.inr rfl) rfl (.cellA aa rfl rfl rfl) (Le.out [((0,8),(7,0)),((1,8),(18,0))] [] (.agg rfl (ai (aq rfl rfl) (ai (aq rfl rfl) am))) rfl rfl rfl trivial ⟨⟨rfl,⟨_,rfl, .rowE (by rw [List.take_of_length_le (by rw [bk];omega),List.drop_of_length_le (by simp [eW]),List.append_nil])⟩,rfl⟩,⟨rfl,⟨_,rfl, .rowE rfl⟩,rfl⟩,trivial⟩)
theorem ea (c:List Int) (l:List (Int×Int)) (h1:l.length≤1000000) (hc:c.length≤1000000) (ho: ∀ w∈l,0≤w.1∧w.1 < (c.length:Int)):
    Spec Try.prog 25 (aZ [.ref (0,9) 0 c.length, .sl l.length (gd l)] [((0,9), .row 3 1 (ce c))]) (aS (.tup []) [((0,9), .row 3 1 (ce (gh c l)))] [(0,9)] [(0,9)]):=by
  refine Spec.ofNI Try.func25 rfl Try.ntmps25 rfl ?_
  refine ay fun K1 hK1=> ?_
  refine an ?_
  refine aj (au _ kw) ?_
  refine aj (cL _ aa rfl) ?_
  refine aj (au _ bc) ?_
  refine ap (hK1 _ ?_)
  clear hK1;try clear K1
  refine cw ?_
  refine ez (α:=Nat) (fun k=> k≤l.length) 19 [(0,_),(6,_),(7,_)] [] (fun k=> [(8, .v (.int .i64 (k:Int)))]) (fun k=> [((0,9), .row 3 1 (ce (gh c (l.take k))))]) [(0,9)] [(0,9)] (fun k=> l.length - k) 0 ?_ (by
    refine Le.mkJ [] [] rfl ?_ ?_ trivial ⟨rfl,trivial⟩ ?_
    · exact ⟨(iR rfl),(iS rfl),(iV rfl),(aF (by first | rfl | omega | (simp;done) | (simp;omega) | assumption)),trivial⟩
    · exact ⟨(kQ rfl rfl rfl (by first | rfl | omega | (simp;done) | (simp;omega) | assumption)),trivial⟩
    kernel_rfl) ?_
  · first | omega | trivial | exact ⟨by omega,by omega⟩
  intro k hk
  refine ay fun K2 hK2=> ?_
  refine an ?_
  first
    | refine aj (bo _ _ rfl rfl (by assumption)) ?_
    | refine aj (bo _ _ rfl rfl rfl) ?_
  refine ap (hK2 _ ?_)
  clear hK2;try clear K2
  refine ay fun K3 hK3=> ?_
  refine bZ rfl (fun hc9=> ?_) (fun hc9=> ?_)
  · skip
    have hia:=gD l k ab
    have hm:l.getD k (0,0)∈l:=by rw [List.getD_eq_getElem?_getD,List.getElem?_eq_getElem ab];exact List.getElem_mem _
    obtain ⟨q1,q2⟩:=ho _ hm
    have q3:=lW c l (k:=k) ab
    generalize l.getD k (0,0)=w at hia q1 q2 q3
    obtain ⟨i,hi⟩:=Int.eq_ofNat_of_zero_le q1
    rw [hi,Int.toNat_natCast] at q3
    have q4:(gh c (l.take k)).length=c.length:=dn _ _
    refine bw (hK3 _ ?_)
    clear hK3;try clear K3
    refine ay fun K4 hK4=> ?_
    refine cw ?_
    refine ay fun K5 hK5=> ?_
    refine an ?_
    first
      | refine aj (cV _ _ aa rfl rfl _ rfl ab (by first | assumption | decide | (simp only [bk,cu,cg,bk,bU];omega) | (simp;done) | (simp;omega) | (simp [ce,iz];omega)) (by first | exact Nat.mul_one _ | rfl | omega)) ?_
      | refine aj (cV _ _ aa rfl rfl (Int.toNat _) (Int.toNat_of_nonneg ab).symm ab (by first | assumption | decide | (simp only [bk,cu,cg,bk,bU];omega) | (simp;done) | (simp;omega) | (simp [ce,iz];omega)) (by first | exact Nat.mul_one _ | rfl | omega)) ?_
    refine aj (bg _ aa rfl (by exact hia) rfl) ?_
    refine aj (bb (5,0) aa rfl rfl) ?_
    refine aj (aT _ _ aa rfl rfl rfl rfl (Nat.le_of_ble_eq_true rfl) rfl) ?_
    refine ap (hK5 _ ?_)
    clear hK5;try clear K5
    refine an ?_
    refine aj (au _ mo) ?_
    first
      | refine aj (aA _ aa rfl rfl rfl) ?_
      | refine aj (aC _ aa rfl rfl) ?_
    first
      | refine aj (aK _ aa rfl rfl gg) ?_
      | refine aj (aN _ aa rfl rfl (by first | rfl | exact ax _ _ ab | exact aG _ _ ab | assumption | exact ax _ _ ab) rfl) ?_
    first
      | refine aj (aA _ aa rfl rfl rfl) ?_
      | refine aj (aC _ aa rfl rfl) ?_
    first
      | refine aj (aK _ aa rfl rfl gg) ?_
      | refine aj (aN _ aa rfl rfl (by first | rfl | exact ax _ _ ab | exact aG _ _ ab | assumption | exact ax _ _ ab) rfl) ?_
    refine aj (bL _ _ aa rfl rfl rfl i hi ab (by exact (Nat.zero_add _).trans (Nat.mul_one _))) ?_
    refine aj (jL _ _ aa rfl rfl rfl rfl rfl (by rw [bk];simp only [List.length_cons,List.length_nil];omega) ((ia _ _ _ ab).trans (congrArg ce q3.symm))) ?_
    refine ap (hK4 _ ?_)
    clear hK4;try clear K4
    refine an ?_
    first
      | refine aj (bA _ _ rfl rfl (dH ab)) ?_
      | refine aj (bA _ _ rfl rfl rfl) ?_
    refine aj (au _ bc) ?_
    refine ap ?_
    refine ⟨k+1,?_,?_,?_⟩
    · first | omega | trivial | exact ⟨by omega,by omega⟩
    · skip
      refine Le.mkJ [] [] rfl ?_ ?_ trivial ⟨rfl,trivial⟩ ?_
      · exact ⟨(iR rfl),(iS rfl),(iV rfl),(aF (by first | rfl | omega | (simp;done) | (simp;omega) | assumption)),trivial⟩
      · exact ⟨(kQ rfl rfl rfl (by first | rfl | omega | (simp;done) | (simp;omega) | assumption)),trivial⟩
      kernel_rfl
    omega
  refine eP ?_
  refine id ?_
  exact cR (.inl rfl) rfl (Le.outI [] [] (.tup rfl am) rfl rfl rfl trivial ⟨⟨rfl,⟨_,rfl, .rowE (by rw [List.take_of_length_le ab])⟩,rfl⟩,trivial⟩ ⟨rfl,trivial⟩ rfl)
theorem kC (d:Dk) (h1:d.cells.length≤1000000) (h2:d.pend.length≤1000000) (ho: ∀ w∈d.pend,0≤w.1∧w.1 < (d.cells.length:Int)):
    Spec Try.prog 9 (bq [eZ d] []) (aX (.agg [.ref (0,8) 0 d.cells.length, .v (.slice none 0 0)]) [((0,8), .row 3 1 (ce d.view))]):=by
  have hd:=dt d h1 h2
  have ha:=ea d.cells d.pend h2 h1 ho
  have hl:d.view.length=d.cells.length:=dn _ _
  have hl2:d.sync.cells.length=d.cells.length:=hl
  refine Spec.ofN Try.func9 rfl Try.ntmps9 rfl ?_
  refine ay fun K1 hK1=> ?_
  refine an ?_
  refine aj (cC (1,0) _ rfl rfl) ?_
  refine aj (bb (2,0) aa rfl rfl) ?_
  refine ap (hK1 _ ?_)
  clear hK1;try clear K1
  refine ay fun K2 hK2=> ?_
  refine an ?_
  first
    | refine aj (bl _ aa rfl rfl rfl rfl) ?_
    | refine aj (bm _ aa rfl rfl (by first | rfl | assumption) rfl) ?_
    | refine aj (bg _ aa rfl (by first | rfl | assumption) rfl) ?_
  refine aj (cJ aa [((0,8),(5,0)),((1,8),(5,1))] ?_ (hd.toI) trivial ⟨rfl,rfl,trivial⟩ ae) ?_
  · repeat' (first | exact aD | refine aB ?_ ?_ | exact Lv.v | exact aF (by assumption) | exact aF ab | exact Lv.sl | exact Lv.fp | exact Lv.nil | exact aq rfl rfl | exact aP rfl | refine Lv.agg rfl ?_ | refine Lv.fn rfl ?_ rfl ?_ | refine Lv.ifc ?_ | exact am | refine ai ?_ ?_)
  refine aj (bb (3,0) aa rfl rfl) ?_
  refine aj (aT _ _ aa rfl rfl rfl rfl (Nat.le_of_ble_eq_true rfl) rfl) ?_
  refine ap (hK2 _ ?_)
  clear hK2;try clear K2
  refine ay fun K3 hK3=> ?_
  refine bP (Le.frzB (ys:=gd d.pend) (3,0) 1 rfl rfl rfl rfl (by rw [List.drop_zero,iH]) (by rw [bU];omega)) ?_
  refine an ?_
  first
    | refine aj (aA _ aa rfl rfl rfl) ?_
    | refine aj (aC _ aa rfl rfl) ?_
  first
    | refine aj (aK _ aa rfl rfl gx) ?_
    | refine aj (aN _ aa rfl rfl (by first | rfl | exact ax _ _ ab | exact aG _ _ ab | assumption | exact ax _ _ ab) rfl) ?_
  first
    | refine aj (aA _ aa rfl rfl rfl) ?_
    | refine aj (aC _ aa rfl rfl) ?_
  first
    | refine aj (aK _ aa rfl rfl et) ?_
    | refine aj (aN _ aa rfl rfl (by first | rfl | exact ax _ _ ab | exact aG _ _ ab | assumption | exact ax _ _ ab) rfl) ?_
  refine aj (cJ aa [((0,9),(5,0))] ?_ (ha) ⟨⟨rfl,⟨_,rfl, .rowE rfl⟩,rfl⟩,trivial⟩ ⟨rfl,trivial⟩ ae) ?_
  · repeat' (first | exact aD | refine aB ?_ ?_ | exact Lv.v | exact aF (by assumption) | exact aF ab | exact Lv.sl | exact Lv.fp | exact Lv.nil | exact aq rfl rfl | exact aP rfl | refine Lv.agg rfl ?_ | refine Lv.fn rfl ?_ rfl ?_ | refine Lv.ifc ?_ | exact am | refine ai ?_ ?_)
  refine ap (hK3 _ ?_)
  clear hK3;try clear K3
  refine ay fun K4 hK4=> ?_
  refine an ?_
  first
    | refine aj (aA _ aa rfl rfl rfl) ?_
    | refine aj (aC _ aa rfl rfl) ?_
  refine aj (aT _ _ aa rfl rfl rfl rfl (Nat.le_of_ble_eq_true rfl) rfl) ?_
  refine ap (hK4 _ ?_)
  clear hK4;try clear K4
  refine ay fun K5 hK5=> ?_
  refine an ?_
  first
    | refine aj (bl _ aa rfl rfl rfl rfl) ?_
    | refine aj (bm _ aa rfl rfl (by first | rfl | assumption) rfl) ?_
    | refine aj (bg _ aa rfl (by first | rfl | assumption) rfl) ?_
  refine aj (aT _ _ aa rfl rfl rfl rfl (Nat.le_of_ble_eq_true rfl) rfl) ?_
  refine ap (hK5 _ ?_)
  clear hK5;try clear K5
  refine br ?_
  exact dk (.inr rfl) rfl (.cellA aa rfl rfl rfl) (Le.out [((0,8),(5,0))] [] (.agg rfl (ai (aq rfl rfl) (ai .v am))) rfl rfl rfl trivial ⟨⟨rfl,⟨_,rfl, .rowE rfl⟩,rfl⟩,trivial⟩)
theorem jO (d:Dk) (h1:d.cells.length≤1000000) (h2:d.pend.length≤1000000) (ho: ∀ w∈d.pend,0≤w.1∧w.1 < (d.cells.length:Int)):
    Spec Try.prog 9 (bq [eZ d] []) (aX (eZ d.sync) []):=
  (kC d h1 h2 ho).toI.mono (Le.outO [] [(0,8)] (.agg rfl (ai (oa rfl rfl (dn _ _).symm rfl) (ai .nil am))) rfl rfl rfl ⟨rfl,trivial⟩ trivial)
theorem gm (d:Dk) (h1:d.cells.length≤1000000) (h2:d.pend.length≤1000000) (ho: ∀ w∈d.pend,0≤w.1∧w.1 < (d.cells.length:Int)):
    Spec Try.prog 12 (bq [eZ d] []) (aX (.sl d.view.length (ce d.view)) []):=by
  have hs:=jO d h1 h2 ho
  refine Spec.ofN Try.func12 rfl Try.ntmps12 rfl ?_
  refine ay fun K1 hK1=> ?_
  refine an ?_
  refine aj (cC (1,0) _ rfl rfl) ?_
  first
    | refine aj (aM _ kw) ?_
    | refine aj (aM _ mo) ?_
    | refine aj (aM _ nP) ?_
    | refine aj (aM _ (rfl:_=AV.z)) ?_
  refine ap (hK1 _ ?_)
  clear hK1;try clear K1
  refine ay fun K2 hK2=> ?_
  refine an ?_
  first
    | refine aj (bl _ aa rfl rfl rfl rfl) ?_
    | refine aj (bm _ aa rfl rfl (by first | rfl | assumption) rfl) ?_
    | refine aj (bg _ aa rfl (by first | rfl | assumption) rfl) ?_
  refine aj (ba aa (by repeat' (first | exact aJ | refine aI ?_ ?_ | exact Lv.v | exact aF ab | exact Lv.sl | exact Lv.fp | exact Lv.nil | refine Lv.agg rfl ?_ | refine Lv.fn rfl ?_ rfl ?_ | exact am | refine ai ?_ ?_ | exact Lv.z0)) (hs) rfl rfl) ?_
  first
    | refine aj (el _ aa rfl et) ?_
    | refine aj (el _ aa rfl gx) ?_
    | refine aj (el _ aa rfl (rfl:_=some (AV.v (.slice _ _ _)))) ?_
    | refine aj (el _ aa rfl (rfl:_=some (AV.z))) ?_
    | refine aj (kV _ aa rfl rfl rfl) ?_
  refine aj (aM _ kw) ?_
  refine ap (hK2 _ ?_)
  clear hK2;try clear K2
  refine br ?_
  exact tI rfl rfl
theorem kx (n:Nat) (h1:n≤1000000):
    Spec Try.prog 18 (bq [.v (.int .i64 (n:Int))] []) (aX (.agg [.ref (0,8) 0 n, .v (.slice none 0 0)]) [((0,8), .row 3 1 (ce (List.replicate n 0)))]):=by
  refine Spec.ofN Try.func18 rfl Try.ntmps18 rfl ?_
  refine ay fun K1 hK1=> ?_
  refine an ?_
  refine aj (bb (2,0) aa rfl rfl) ?_
  refine ap (hK1 _ ?_)
  clear hK1;try clear K1
  refine ay fun K2 hK2=> ?_
  refine an ?_
  refine aj (au _ bc) ?_
  first
    | refine aj (jV (4,0) _ _ aa rfl rfl _ rfl rfl ab rfl rfl) ?_
    | refine aj (jV (4,0) _ _ aa rfl rfl (Int.toNat _) (Int.toNat_of_nonneg ab).symm (Int.toNat_of_nonneg ab).symm ab rfl rfl) ?_
  refine aj (bf _ aa rfl (by exact iU)) ?_
  refine aj (aT _ _ aa rfl rfl rfl rfl (Nat.le_of_ble_eq_true rfl) rfl) ?_
  refine ap (hK2 _ ?_)
  clear hK2;try clear K2
  refine br ?_
  exact dk (.inr rfl) rfl (.cellA aa rfl rfl rfl) (Le.out [((0,8),(4,0))] [] (.agg rfl (ai (aq rfl rfl) (ai .v am))) rfl rfl rfl trivial ⟨⟨rfl,⟨_,rfl, .rowE (by simp [ce,rep])⟩,rfl⟩,trivial⟩)
theorem jc (n:Nat) (h1:n≤1000000):Spec Try.prog 18 (bq [.v (.int .i64 (n:Int))] []) (aX (eZ ⟨List.replicate n 0,[]⟩) []):=
  (kx n h1).toI.mono (Le.outO [] [(0,8)] (.agg rfl (ai (oa rfl rfl (by simp) rfl) (ai .nil am))) rfl rfl rfl ⟨rfl,trivial⟩ trivial)

abbrev la (d:Dk):Prop:= ∀ w∈d.pend,0≤w.1∧w.1 < (d.cells.length:Int)
theorem oq {ρ:aw→aw} {σ:St} {F:aw→Bool} {id:aw} {e:TypeId} {n m:Nat} {l r:List (Int×Int)} (hid:σ.ob id= .obj (.row e 2 (gd l))) (hF:F id=true) (hm:n=m) (hl:l=r) (hn:m=r.length:=by (first | rfl | omega | simp_all)):Lv ρ σ F (.sl m (gd r)) (.ref id 0 n):=by
  subst hm;subst hl
  exact lc hid hF (by rw [bU,hn]) rfl
theorem jN (d:Dk) (h1:d.cells.length≤1000000) (h2:d.pend.length≤1000000) (c v:Int) (hc:c < 0):
    Spec Try.prog 7 (bq [eZ d, .v (.int .i64 c), .v (.int .i64 v)] []) (aX (eZ d) []):=by
  have hd:=dt d h1 h2
  refine Spec.ofN Try.func7 rfl Try.ntmps7 rfl ?_
  refine ay fun K1 hK1=> ?_
  refine an ?_
  refine aj (cC (3,0) _ rfl rfl) ?_
  refine aj (bb (6,0) aa rfl rfl) ?_
  refine ap (hK1 _ ?_)
  clear hK1;try clear K1
  refine ay fun K2 hK2=> ?_
  refine an ?_
  first
    | refine aj (bl _ aa rfl rfl rfl rfl) ?_
    | refine aj (bm _ aa rfl rfl (by first | rfl | assumption) rfl) ?_
    | refine aj (bg _ aa rfl (by first | rfl | assumption) rfl) ?_
  refine aj (cJ aa [((0,8),(9,0)),((1,8),(9,1))] ?_ (hd.toI) trivial ⟨rfl,rfl,trivial⟩ ae) ?_
  · repeat' (first | exact aD | refine aB ?_ ?_ | exact Lv.v | exact aF (by assumption) | exact aF ab | exact Lv.sl | exact Lv.fp | exact Lv.nil | exact aq rfl rfl | exact aP rfl | refine Lv.agg rfl ?_ | refine Lv.fn rfl ?_ rfl ?_ | refine Lv.ifc ?_ | exact am | refine ai ?_ ?_)
  refine aj (bb (7,0) aa rfl rfl) ?_
  refine aj (aT _ _ aa rfl rfl rfl rfl (Nat.le_of_ble_eq_true rfl) rfl) ?_
  refine ap (hK2 _ ?_)
  clear hK2;try clear K2
  refine ay fun K3 hK3=> ?_
  refine ay fun K4 hK4=> ?_
  refine an ?_
  refine aj (au _ bc) ?_
  refine aj (bo (r:=true) _ _ rfl rfl (decide_eq_true ab)) ?_
  refine aj (au _ dh) ?_
  refine bz rfl rfl ah ?_
  refine bz rfl rfl ah ?_
  refine bz rfl rfl ah ?_
  refine bz rfl rfl ah ?_
  refine bz rfl rfl ah ?_
  refine aj (bB _ _ _ rfl dh) ?_
  refine ap (hK4 _ ?_)
  clear hK4;try clear K4
  refine gH rfl rfl ?_
  refine ay fun K5 hK5=> ?_
  refine bP (σ':=bC 45 [(6,_),(7,_)] [((6,0),_),((9,0),_),((9,1),_),((7,0),_)] [] []) (by
    refine Le.mkJ [] [] rfl ?_ ?_ trivial trivial ?_
    · exact ⟨(iP rfl),(iP rfl),trivial⟩
    · exact ⟨(bn rfl rfl rfl),(bn rfl rfl rfl),(bn rfl rfl rfl),(bn rfl rfl rfl),trivial⟩
    kernel_rfl) ?_
  refine an ?_
  first
    | refine aj (bl _ aa rfl rfl rfl rfl) ?_
    | refine aj (bm _ aa rfl rfl (by first | rfl | assumption) rfl) ?_
    | refine aj (bg _ aa rfl (by first | rfl | assumption) rfl) ?_
  refine aj (aT _ _ aa rfl rfl rfl rfl (Nat.le_of_ble_eq_true rfl) rfl) ?_
  refine ap (hK5 _ ?_)
  clear hK5;try clear K5
  refine br ?_
  exact dk (.inr rfl) rfl (.cellA aa rfl rfl rfl) (Le.out [] [(9,0),(9,1)] (.agg rfl (ai (oa rfl rfl rfl rfl) (ai (oq rfl rfl rfl rfl) am))) rfl rfl rfl ⟨rfl,rfl,trivial⟩ trivial)
theorem jM (d:Dk) (h1:d.cells.length≤1000000) (h2:d.pend.length≤1000000) (c v:Int) (hc:0≤c) (hb:(d.cells.length:Int)≤c):
    Spec Try.prog 7 (bq [eZ d, .v (.int .i64 c), .v (.int .i64 v)] []) (aX (eZ d) []):=by
  have hd:=dt d h1 h2
  refine Spec.ofN Try.func7 rfl Try.ntmps7 rfl ?_
  refine ay fun K1 hK1=> ?_
  refine an ?_
  refine aj (cC (3,0) _ rfl rfl) ?_
  refine aj (bb (6,0) aa rfl rfl) ?_
  refine ap (hK1 _ ?_)
  clear hK1;try clear K1
  refine ay fun K2 hK2=> ?_
  refine an ?_
  first
    | refine aj (bl _ aa rfl rfl rfl rfl) ?_
    | refine aj (bm _ aa rfl rfl (by first | rfl | assumption) rfl) ?_
    | refine aj (bg _ aa rfl (by first | rfl | assumption) rfl) ?_
  refine aj (cJ aa [((0,8),(9,0)),((1,8),(9,1))] ?_ (hd.toI) trivial ⟨rfl,rfl,trivial⟩ ae) ?_
  · repeat' (first | exact aD | refine aB ?_ ?_ | exact Lv.v | exact aF (by assumption) | exact aF ab | exact Lv.sl | exact Lv.fp | exact Lv.nil | exact aq rfl rfl | exact aP rfl | refine Lv.agg rfl ?_ | refine Lv.fn rfl ?_ rfl ?_ | refine Lv.ifc ?_ | exact am | refine ai ?_ ?_)
  refine aj (bb (7,0) aa rfl rfl) ?_
  refine aj (aT _ _ aa rfl rfl rfl rfl (Nat.le_of_ble_eq_true rfl) rfl) ?_
  refine ap (hK2 _ ?_)
  clear hK2;try clear K2
  refine ay fun K3 hK3=> ?_
  refine ay fun K4 hK4=> ?_
  refine an ?_
  refine aj (au _ bc) ?_
  refine aj (bo (r:=false) _ _ rfl rfl (decide_eq_false ab)) ?_
  refine aj (au _ dh) ?_
  refine aL rfl rfl (au _ bc) ?_
  first
    | refine aL rfl rfl (aA _ aa rfl rfl rfl) ?_
    | refine aL rfl rfl (aC _ aa rfl rfl) ?_
  first
    | refine aL rfl rfl (aK _ aa rfl rfl et) ?_
    | refine aL rfl rfl (aN _ aa rfl rfl (by first | rfl | exact ax _ _ ab | exact aG _ _ ab | assumption | exact ax _ _ ab) rfl) ?_
  refine aL rfl rfl (cL _ aa rfl) ?_
  refine aL rfl rfl (eQ (r:=true) _ _ rfl rfl (decide_eq_true ab)) ?_
  refine aj (bB _ _ _ rfl dh) ?_
  refine ap (hK4 _ ?_)
  clear hK4;try clear K4
  refine gH rfl rfl ?_
  refine ay fun K5 hK5=> ?_
  refine bP (σ':=bC 45 [(6,_),(7,_)] [((6,0),_),((9,0),_),((9,1),_),((7,0),_)] [] []) (by
    refine Le.mkJ [] [] rfl ?_ ?_ trivial trivial ?_
    · exact ⟨(iP rfl),(iP rfl),trivial⟩
    · exact ⟨(bn rfl rfl rfl),(bn rfl rfl rfl),(bn rfl rfl rfl),(bn rfl rfl rfl),trivial⟩
    kernel_rfl) ?_
  refine an ?_
  first
    | refine aj (bl _ aa rfl rfl rfl rfl) ?_
    | refine aj (bm _ aa rfl rfl (by first | rfl | assumption) rfl) ?_
    | refine aj (bg _ aa rfl (by first | rfl | assumption) rfl) ?_
  refine aj (aT _ _ aa rfl rfl rfl rfl (Nat.le_of_ble_eq_true rfl) rfl) ?_
  refine ap (hK5 _ ?_)
  clear hK5;try clear K5
  refine br ?_
  exact dk (.inr rfl) rfl (.cellA aa rfl rfl rfl) (Le.out [] [(9,0),(9,1)] (.agg rfl (ai (oa rfl rfl rfl rfl) (ai (oq rfl rfl rfl rfl) am))) rfl rfl rfl ⟨rfl,rfl,trivial⟩ trivial)
theorem dJ (d:Dk) (h1:d.cells.length≤1000000) (h2:d.pend.length≤1000000) (c v:Int) (hc:0≤c) (hb:c < (d.cells.length:Int)) (hr:d.pend.length+1≤4):
    Spec Try.prog 7 (bq [eZ d, .v (.int .i64 c), .v (.int .i64 v)] []) (aX (eZ ⟨d.cells,d.pend++[(c,v)]⟩) []):=by
  have hd:=dt d h1 h2
  have hl:(d.pend++[(c,v)]).length=d.pend.length+1:=by simp
  refine Spec.ofN Try.func7 rfl Try.ntmps7 rfl ?_
  refine ay fun K1 hK1=> ?_
  refine an ?_
  refine aj (cC (3,0) _ rfl rfl) ?_
  refine aj (bb (6,0) aa rfl rfl) ?_
  refine ap (hK1 _ ?_)
  clear hK1;try clear K1
  refine ay fun K2 hK2=> ?_
  refine an ?_
  first
    | refine aj (bl _ aa rfl rfl rfl rfl) ?_
    | refine aj (bm _ aa rfl rfl (by first | rfl | assumption) rfl) ?_
    | refine aj (bg _ aa rfl (by first | rfl | assumption) rfl) ?_
  refine aj (cJ aa [((0,8),(9,0)),((1,8),(9,1))] ?_ (hd.toI) trivial ⟨rfl,rfl,trivial⟩ ae) ?_
  · repeat' (first | exact aD | refine aB ?_ ?_ | exact Lv.v | exact aF (by assumption) | exact aF ab | exact Lv.sl | exact Lv.fp | exact Lv.nil | exact aq rfl rfl | exact aP rfl | refine Lv.agg rfl ?_ | refine Lv.fn rfl ?_ rfl ?_ | refine Lv.ifc ?_ | exact am | refine ai ?_ ?_)
  refine aj (bb (7,0) aa rfl rfl) ?_
  refine aj (aT _ _ aa rfl rfl rfl rfl (Nat.le_of_ble_eq_true rfl) rfl) ?_
  refine ap (hK2 _ ?_)
  clear hK2;try clear K2
  refine ay fun K3 hK3=> ?_
  refine ay fun K4 hK4=> ?_
  refine an ?_
  refine aj (au _ bc) ?_
  refine aj (bo (r:=false) _ _ rfl rfl (decide_eq_false ab)) ?_
  refine aj (au _ dh) ?_
  refine aL rfl rfl (au _ bc) ?_
  first
    | refine aL rfl rfl (aA _ aa rfl rfl rfl) ?_
    | refine aL rfl rfl (aC _ aa rfl rfl) ?_
  first
    | refine aL rfl rfl (aK _ aa rfl rfl et) ?_
    | refine aL rfl rfl (aN _ aa rfl rfl (by first | rfl | exact ax _ _ ab | exact aG _ _ ab | assumption | exact ax _ _ ab) rfl) ?_
  refine aL rfl rfl (cL _ aa rfl) ?_
  refine aL rfl rfl (eQ (r:=false) _ _ rfl rfl (decide_eq_false ab)) ?_
  refine aj (bB _ _ _ rfl dh) ?_
  refine ap (hK4 _ ?_)
  clear hK4;try clear K4
  refine eE rfl rfl ?_
  refine bw (hK3 _ ?_)
  clear hK3;try clear K3
  refine ay fun K5 hK5=> ?_
  refine bP (σ':=bC 45 [(1,_),(2,_),(6,_),(7,_)] [((6,0),_),((9,0),_),((9,1),_),((7,0),_)] [] []) (by
    refine Le.mkJ [] [] rfl ?_ ?_ trivial trivial ?_
    · exact ⟨(iV rfl),(iV rfl),(iP rfl),(iP rfl),trivial⟩
    · exact ⟨(bn rfl rfl rfl),(bn rfl rfl rfl),(bn rfl rfl rfl),(bn rfl rfl rfl),trivial⟩
    kernel_rfl) ?_
  refine an ?_
  first
    | refine aj (aA _ aa rfl rfl rfl) ?_
    | refine aj (aC _ aa rfl rfl) ?_
  first
    | refine aj (aK _ aa rfl rfl gx) ?_
    | refine aj (aN _ aa rfl rfl (by first | rfl | exact ax _ _ ab | exact aG _ _ ab | assumption | exact ax _ _ ab) rfl) ?_
  refine aj (au _ bc) ?_
  refine aj (au _ bc) ?_
  refine aj (bf _ aa rfl (by exact iU)) ?_
  refine aj (dG _ _ aa rfl ag (by first | (simp <;> rfl) | (simp;exact ⟨rfl,rfl⟩) | (simp;exact ⟨rfl,rfl,rfl⟩)) ah rfl) ?_
  refine aj (ml (m:=1) (news:=nJ (c,v)) (26,0) _ _ aa rfl rfl (by rw [bU]) (.sl rfl) ab rfl (iX _ (c,v)) rfl) ?_
  first
    | refine aj (aA _ aa rfl rfl rfl) ?_
    | refine aj (aC _ aa rfl rfl) ?_
  refine aj (aT _ _ aa rfl rfl rfl rfl (Nat.le_of_ble_eq_true rfl) rfl) ?_
  refine ap (hK5 _ ?_)
  clear hK5;try clear K5
  refine ay fun K6 hK6=> ?_
  refine ay fun K7 hK7=> ?_
  refine an ?_
  first
    | refine aj (aA _ aa rfl rfl rfl) ?_
    | refine aj (aC _ aa rfl rfl) ?_
  first
    | refine aj (aK _ aa rfl rfl gx) ?_
    | refine aj (aN _ aa rfl rfl (by first | rfl | exact ax _ _ ab | exact aG _ _ ab | assumption | exact ax _ _ ab) rfl) ?_
  first
    | refine aj (dO _ aa rfl rfl) ?_
    | refine aj (dM _ aa rfl rfl) ?_
  first
    | refine aj (iA _ _ rfl rfl (by assumption)) ?_
    | refine aj (iA _ _ rfl rfl rfl) ?_
  refine ap (hK7 _ ?_)
  clear hK7;try clear K7
  refine eE rfl (decide_eq_false ab) ?_
  refine bw (hK6 _ ?_)
  clear hK6;try clear K6
  refine ay fun K8 hK8=> ?_
  refine an ?_
  first
    | refine aj (bl _ aa rfl rfl rfl rfl) ?_
    | refine aj (bm _ aa rfl rfl (by first | rfl | assumption) rfl) ?_
    | refine aj (bg _ aa rfl (by first | rfl | assumption) rfl) ?_
  refine aj (aT _ _ aa rfl rfl rfl rfl (Nat.le_of_ble_eq_true rfl) rfl) ?_
  refine ap (hK8 _ ?_)
  clear hK8;try clear K8
  refine br ?_
  exact dk (.inr rfl) rfl (.cellA aa rfl rfl rfl) (Le.out [] [(9,0),(26,0)] (.agg rfl (ai (oa rfl rfl rfl rfl) (ai (oq rfl rfl hl.symm rfl) am))) rfl rfl rfl ⟨rfl,rfl,trivial⟩ trivial)
theorem jq (d:Dk) (h1:d.cells.length≤1000000) (h2:d.pend.length≤1000000) (c v:Int) (ho:la d) (hc:0≤c) (hb:c < (d.cells.length:Int)) (hr:4 < d.pend.length+1):
    Spec Try.prog 7 (bq [eZ d, .v (.int .i64 c), .v (.int .i64 v)] []) (aX (eZ ⟨gh d.cells ((d.pend++[(c,v)]).take 1),(d.pend++[(c,v)]).drop 1⟩) []):=by
  have hd:=dt d h1 h2
  have hl:(d.pend++[(c,v)]).length=d.pend.length+1:=by simp
  have hia:=gD (d.pend++[(c,v)]) 0 ab
  have ht:(d.pend++[(c,v)]).take 1=[(d.pend++[(c,v)]).getD 0 (0,0)]:=by
    cases d.pend with
    | nil=> rfl
    | cons x l=> rfl
  have hw:0≤((d.pend++[(c,v)]).getD 0 (0,0)).1∧((d.pend++[(c,v)]).getD 0 (0,0)).1 < (d.cells.length:Int):=by
    have hm:(d.pend++[(c,v)]).getD 0 (0,0)∈d.pend++[(c,v)]:=by rw [List.getD_eq_getElem?_getD,List.getElem?_eq_getElem ab];exact List.getElem_mem _
    rcases List.mem_append.1 hm with hm | hm
    · exact ho _ hm
    rw [List.mem_singleton.1 hm];exact ⟨hc,hb⟩
  have hl2:((d.pend++[(c,v)]).drop 1).length=d.pend.length+1 - 1:=by rw [List.length_drop,hl]
  have hl3:(gh d.cells ((d.pend++[(c,v)]).take 1)).length=d.cells.length:=dn _ _
  have hsl:((gd (d.pend++[(c,v)])).drop (1*2)).take ((d.pend.length+1 - 1)*2)=gd ((d.pend++[(c,v)]).drop 1):=by
    have e:(gd (d.pend++[(c,v)])).drop 2=gd ((d.pend++[(c,v)]).drop 1):=by
      cases d.pend with
      | nil=> rfl
      | cons x l=> rfl
    rw [Nat.one_mul,e,← hl2,iH]
  generalize (d.pend++[(c,v)]).getD 0 (0,0)=w at hia ht hw
  have hap:=ea d.cells [w] (by simp) h1 (fun x hx=> by rw [List.mem_singleton.1 hx];exact hw)
  have hap:Spec Try.prog 25 (aZ [.ref (0,9) 0 d.cells.length, .sl 1 (gd [w])] [((0,9), .row 3 1 (ce d.cells))]) (aS (.tup []) [((0,9), .row 3 1 (ce (gh d.cells [w])))] [(0,9)] [(0,9)]):=hap
  refine Spec.ofN Try.func7 rfl Try.ntmps7 rfl ?_
  refine ay fun K1 hK1=> ?_
  refine an ?_
  refine aj (cC (3,0) _ rfl rfl) ?_
  refine aj (bb (6,0) aa rfl rfl) ?_
  refine ap (hK1 _ ?_)
  clear hK1;try clear K1
  refine ay fun K2 hK2=> ?_
  refine an ?_
  first
    | refine aj (bl _ aa rfl rfl rfl rfl) ?_
    | refine aj (bm _ aa rfl rfl (by first | rfl | assumption) rfl) ?_
    | refine aj (bg _ aa rfl (by first | rfl | assumption) rfl) ?_
  refine aj (cJ aa [((0,8),(9,0)),((1,8),(9,1))] ?_ (hd.toI) trivial ⟨rfl,rfl,trivial⟩ ae) ?_
  · repeat' (first | exact aD | refine aB ?_ ?_ | exact Lv.v | exact aF (by assumption) | exact aF ab | exact Lv.sl | exact Lv.fp | exact Lv.nil | exact aq rfl rfl | exact aP rfl | refine Lv.agg rfl ?_ | refine Lv.fn rfl ?_ rfl ?_ | refine Lv.ifc ?_ | exact am | refine ai ?_ ?_)
  refine aj (bb (7,0) aa rfl rfl) ?_
  refine aj (aT _ _ aa rfl rfl rfl rfl (Nat.le_of_ble_eq_true rfl) rfl) ?_
  refine ap (hK2 _ ?_)
  clear hK2;try clear K2
  refine ay fun K3 hK3=> ?_
  refine ay fun K4 hK4=> ?_
  refine an ?_
  refine aj (au _ bc) ?_
  refine aj (bo (r:=false) _ _ rfl rfl (decide_eq_false ab)) ?_
  refine aj (au _ dh) ?_
  refine aL rfl rfl (au _ bc) ?_
  first
    | refine aL rfl rfl (aA _ aa rfl rfl rfl) ?_
    | refine aL rfl rfl (aC _ aa rfl rfl) ?_
  first
    | refine aL rfl rfl (aK _ aa rfl rfl et) ?_
    | refine aL rfl rfl (aN _ aa rfl rfl (by first | rfl | exact ax _ _ ab | exact aG _ _ ab | assumption | exact ax _ _ ab) rfl) ?_
  refine aL rfl rfl (cL _ aa rfl) ?_
  refine aL rfl rfl (eQ (r:=false) _ _ rfl rfl (decide_eq_false ab)) ?_
  refine aj (bB _ _ _ rfl dh) ?_
  refine ap (hK4 _ ?_)
  clear hK4;try clear K4
  refine eE rfl rfl ?_
  refine bw (hK3 _ ?_)
  clear hK3;try clear K3
  refine ay fun K5 hK5=> ?_
  refine bP (σ':=bC 45 [(1,_),(2,_),(6,_),(7,_)] [((6,0),_),((9,0),_),((9,1),_),((7,0),_)] [] []) (by
    refine Le.mkJ [] [] rfl ?_ ?_ trivial trivial ?_
    · exact ⟨(iV rfl),(iV rfl),(iP rfl),(iP rfl),trivial⟩
    · exact ⟨(bn rfl rfl rfl),(bn rfl rfl rfl),(bn rfl rfl rfl),(bn rfl rfl rfl),trivial⟩
    kernel_rfl) ?_
  refine an ?_
  first
    | refine aj (aA _ aa rfl rfl rfl) ?_
    | refine aj (aC _ aa rfl rfl) ?_
  first
    | refine aj (aK _ aa rfl rfl gx) ?_
    | refine aj (aN _ aa rfl rfl (by first | rfl | exact ax _ _ ab | exact aG _ _ ab | assumption | exact ax _ _ ab) rfl) ?_
  refine aj (au _ bc) ?_
  refine aj (au _ bc) ?_
  refine aj (bf _ aa rfl (by exact iU)) ?_
  refine aj (dG _ _ aa rfl ag (by first | (simp <;> rfl) | (simp;exact ⟨rfl,rfl⟩) | (simp;exact ⟨rfl,rfl,rfl⟩)) ah rfl) ?_
  refine aj (ml (m:=1) (news:=nJ (c,v)) (26,0) _ _ aa rfl rfl (by rw [bU]) (.sl rfl) ab rfl (iX _ (c,v)) rfl) ?_
  first
    | refine aj (aA _ aa rfl rfl rfl) ?_
    | refine aj (aC _ aa rfl rfl) ?_
  refine aj (aT _ _ aa rfl rfl rfl rfl (Nat.le_of_ble_eq_true rfl) rfl) ?_
  refine ap (hK5 _ ?_)
  clear hK5;try clear K5
  refine ay fun K6 hK6=> ?_
  refine ay fun K7 hK7=> ?_
  refine an ?_
  first
    | refine aj (aA _ aa rfl rfl rfl) ?_
    | refine aj (aC _ aa rfl rfl) ?_
  first
    | refine aj (aK _ aa rfl rfl gx) ?_
    | refine aj (aN _ aa rfl rfl (by first | rfl | exact ax _ _ ab | exact aG _ _ ab | assumption | exact ax _ _ ab) rfl) ?_
  first
    | refine aj (dO _ aa rfl rfl) ?_
    | refine aj (dM _ aa rfl rfl) ?_
  first
    | refine aj (iA _ _ rfl rfl (by assumption)) ?_
    | refine aj (iA _ _ rfl rfl rfl) ?_
  refine ap (hK7 _ ?_)
  clear hK7;try clear K7
  refine gH rfl (decide_eq_true ab) ?_
  refine ay fun K8 hK8=> ?_
  refine bP (Le.frzB (ys:=gd (d.pend++[(c,v)])) (7,0) 1 rfl rfl rfl rfl (by rw [List.drop_zero,← hl,iH]) (by rw [bU];omega)) ?_
  refine de 8 [32,33,34,35,36,37,38,39] [(9,0)] ae ae rfl (aQ rfl) (rfl:_=[_,_,_,_,_,_,_,_]) (rfl:_=[]) ?_
  first
    | refine az (_,[]) (fun τ=> aA _ aa rfl rfl rfl) ?_
    | refine az (_,[]) (fun τ=> aC _ aa rfl rfl) ?_
  refine aE (rfl:_=[_]) ?_
  first
    | refine az (_,[]) (fun τ=> aK _ aa rfl rfl gx) ?_
    | refine az (_,[]) (fun τ=> aN _ aa rfl rfl (by first | rfl | exact ax _ _ ab | exact aG _ _ ab | assumption | exact ax _ _ ab) rfl) ?_
  refine aE (rfl:_=[_,_]) ?_
  first
    | refine az (_,[]) (fun τ=> aA _ aa rfl rfl rfl) ?_
    | refine az (_,[]) (fun τ=> aC _ aa rfl rfl) ?_
  refine aE (rfl:_=[_,_,_]) ?_
  first
    | refine az (_,[]) (fun τ=> aK _ aa rfl rfl et) ?_
    | refine az (_,[]) (fun τ=> aN _ aa rfl rfl (by first | rfl | exact ax _ _ ab | exact aG _ _ ab | assumption | exact ax _ _ ab) rfl) ?_
  refine aE (rfl:_=[_,_,_,_]) ?_
  refine az (_,[]) (fun τ=> cV _ _ aa rfl rfl 0 rfl ab (by rw [bU];omega) rfl) ?_
  refine aE (rfl:_=[_,_,_,_,_]) ?_
  refine az (_,[]) (fun τ=> bg _ aa rfl (by exact hia) rfl) ?_
  refine aE (rfl:_=[_,_,_,_,_,_]) ?_
  refine az (_,[]) (fun τ=> dG _ _ aa rfl ag (by simp <;> rfl) ah (by exact (rfl:_=some (gd [w])))) ?_
  refine aE (rfl:_=[_,_,_,_,_,_,_]) ?_
  refine az (_,[((9,0),_)]) (fun τ=> (dW aa [((0,9),(9,0))] ?_ (hap) ⟨⟨rfl,⟨_,rfl, .rowE rfl⟩,rfl⟩,trivial⟩ ⟨rfl,trivial⟩ ⟨rfl,trivial⟩ rfl rfl ae ae)) ?_
  · repeat' (first | exact aD | refine aB ?_ ?_ | exact Lv.v | exact aF (by assumption) | exact aF ab | exact Lv.sl | exact Lv.fp | exact Lv.nil | exact aq rfl rfl | exact aP rfl | refine Lv.agg rfl ?_ | refine Lv.fn rfl ?_ rfl ?_ | refine Lv.ifc ?_ | exact am | refine ai ?_ ?_)
  refine aE (rfl:_=[_,_,_,_,_,_,_,_]) ?_
  refine cf ⟨rfl,?_⟩
  refine ap (hK8 _ ?_)
  clear hK8;try clear K8
  refine bP (σ':=bC 45 [(6,_),(7,_)] [((6,0),_),((9,0),_),((7,0),_)] [] []) (by
    refine Le.mkJ [] [] rfl ?_ ?_ trivial trivial ?_
    · exact ⟨(iP rfl),(iP rfl),trivial⟩
    · exact ⟨(bn rfl rfl rfl),(bn rfl rfl rfl),(bn rfl rfl rfl),trivial⟩
    kernel_rfl) ?_
  refine an ?_
  first
    | refine aj (aA _ aa rfl rfl rfl) ?_
    | refine aj (aC _ aa rfl rfl) ?_
  first
    | refine aj (aK _ aa rfl rfl et) ?_
    | refine aj (aN _ aa rfl rfl (by first | rfl | exact ax _ _ ab | exact aG _ _ ab | assumption | exact ax _ _ ab) rfl) ?_
  refine aj (nQ _ _ _ aa rfl 1 (d.pend.length+1) (.lit rfl rfl) .dflt ab ab hsl rfl) ?_
  first
    | refine aj (aA _ aa rfl rfl rfl) ?_
    | refine aj (aC _ aa rfl rfl) ?_
  refine aj (aT _ _ aa rfl rfl rfl rfl (Nat.le_of_ble_eq_true rfl) rfl) ?_
  refine ap (hK6 _ ?_)
  clear hK6;try clear K6
  refine ay fun K9 hK9=> ?_
  refine an ?_
  first
    | refine aj (bl _ aa rfl rfl rfl rfl) ?_
    | refine aj (bm _ aa rfl rfl (by first | rfl | assumption) rfl) ?_
    | refine aj (bg _ aa rfl (by first | rfl | assumption) rfl) ?_
  refine aj (aT _ _ aa rfl rfl rfl rfl (Nat.le_of_ble_eq_true rfl) rfl) ?_
  refine ap (hK9 _ ?_)
  clear hK9;try clear K9
  refine br ?_
  exact dk (.inr rfl) rfl (.cellA aa rfl rfl rfl) (Le.out [] [(9,0)] (.agg rfl (ai (oa rfl rfl hl3.symm (congrArg (gh d.cells) ht).symm) (ai (fy hl2 rfl) am))) rfl rfl rfl ⟨rfl,trivial⟩ trivial)
theorem jd (d:Dk) (h1:d.cells.length≤1000000) (h2:d.pend.length≤1000000) (ho:la d) (c v:Int):
    Spec Try.prog 7 (bq [eZ d, .v (.int .i64 c), .v (.int .i64 v)] []) (aX (eZ (d.write c v)) []):=by
  unfold Dk.write
  by_cases h0:c < 0
  · rw [if_pos (.inl h0)];exact jN d h1 h2 c v h0
  by_cases hb:(d.cells.length:Int)≤c
  · rw [if_pos (.inr hb)];exact jM d h1 h2 c v ab hb
  rw [if_neg ab]
  by_cases hr:4 < d.pend.length+1
  · rw [if_pos hr];exact jq d h1 h2 c v ho ab ab hr
  rw [if_neg hr];exact dJ d h1 h2 c v ab ab ab
theorem hX: ∀ (l:List (Int×Int)) (b:List Bool) (k:Nat),k < l.length→k < b.length→kept (l.take (k+1)) b=kept (l.take k) b++(if b.getD k false=true then [l.getD k (0,0)] else [])
  | [],_,_,h,_=> by simp at h
  | _::_,[],_,_,h=> by simp at h
  | x::l,y::b,0,_,_=> by cases y <;> simp [kept] <;> cases l <;> simp [kept]
  | x::l,y::b,k+1,h,hb=> by
    have:=hX l b k (by simpa using h) (by simpa using hb)
    cases y <;> simp [kept,this]
theorem jg: ∀ (l:List (Int×Int)) (b:List Bool) (k:Nat),b.length≤k→kept (l.take (k+1)) b=kept (l.take k) b
  | [],_,_,_=> by simp
  | _::_,[],_,_=> by simp [kept]
  | x::l,y::b,0,h=> by simp at h
  | x::l,y::b,k+1,h=> by
    have:=jg l b k (by simpa using h)
    cases y <;> simp [kept,this]
set_option maxHeartbeats 1000000 in
theorem jI (d:Dk) (h1:d.cells.length≤1000000) (h2:d.pend.length≤1000000) (ho:la d) (b:List Bool) (hb:b.length≤1000000):
    Spec Try.prog 10 (bq [eZ d, .sl b.length (iz b)] []) (aX (.agg [.ref (0,8) 0 d.cells.length, .v (.slice none 0 0)]) [((0,8), .row 3 1 (ce (d.crash b).cells))]):=by
  have hd:=dt d h1 h2
  have hlz:(d.crash b).cells.length=d.cells.length:=dn _ _
  refine Spec.ofN Try.func10 rfl Try.ntmps10 rfl ?_
  refine ay fun K1 hK1=> ?_
  refine an ?_
  refine aj (cC (2,0) _ rfl rfl) ?_
  refine aj (bb (4,0) aa rfl rfl) ?_
  refine ap (hK1 _ ?_)
  clear hK1;try clear K1
  refine ay fun K2 hK2=> ?_
  refine an ?_
  first
    | refine aj (bl _ aa rfl rfl rfl rfl) ?_
    | refine aj (bm _ aa rfl rfl (by first | rfl | assumption) rfl) ?_
    | refine aj (bg _ aa rfl (by first | rfl | assumption) rfl) ?_
  refine aj (cJ aa [((0,8),(9,0)),((1,8),(9,1))] ?_ (hd.toI) trivial ⟨rfl,rfl,trivial⟩ ae) ?_
  · repeat' (first | exact aD | refine aB ?_ ?_ | exact Lv.v | exact aF (by assumption) | exact aF ab | exact Lv.sl | exact Lv.fp | exact Lv.nil | exact aq rfl rfl | exact aP rfl | refine Lv.agg rfl ?_ | refine Lv.fn rfl ?_ rfl ?_ | refine Lv.ifc ?_ | exact am | refine ai ?_ ?_)
  refine aj (bb (5,0) aa rfl rfl) ?_
  refine aj (aT _ _ aa rfl rfl rfl rfl (Nat.le_of_ble_eq_true rfl) rfl) ?_
  refine ap (hK2 _ ?_)
  clear hK2;try clear K2
  refine ay fun K3 hK3=> ?_
  refine ay fun K4 hK4=> ?_
  refine bP (Le.frzB (ys:=gd d.pend) (5,0) 1 rfl rfl rfl rfl (by rw [List.drop_zero,iH]) (by rw [bU];omega)) ?_
  refine an ?_
  first
    | refine aj (aA _ aa rfl rfl rfl) ?_
    | refine aj (aC _ aa rfl rfl) ?_
  first
    | refine aj (aK _ aa rfl rfl et) ?_
    | refine aj (aN _ aa rfl rfl (by first | rfl | exact ax _ _ ab | exact aG _ _ ab | assumption | exact ax _ _ ab) rfl) ?_
  refine aj (cL _ aa rfl) ?_
  refine aj (au _ bc) ?_
  refine ap (hK4 _ ?_)
  clear hK4;try clear K4
  refine cw ?_
  refine ez (α:=Nat) (fun k=> k≤d.pend.length) 36 [(1,_),(4,_),(5,_),(11,_),(12,_)] [((4,0),_),((5,0),_)] (fun k=> [(13, .v (.int .i64 (k:Int)))]) (fun k=> [((9,0), .row 3 1 (ce (gh d.cells (kept (d.pend.take k) b))))]) [] [] (fun k=> d.pend.length - k) 0 ?_ (by
    refine Le.mkJ [] [] rfl ?_ ?_ trivial trivial ?_
    · exact ⟨(iS rfl),(iP rfl),(iP rfl),(iS rfl),(iV rfl),(aF (by first | rfl | omega | (simp;done) | (simp;omega) | assumption)),trivial⟩
    · exact ⟨(bn rfl rfl rfl),(bn rfl rfl rfl),(kQ rfl rfl rfl (by first | rfl | omega | (simp;done) | (simp;omega) | assumption)),trivial⟩
    kernel_rfl) ?_
  · first | omega | trivial | exact ⟨by omega,by omega⟩
  intro k hk
  refine ay fun K5 hK5=> ?_
  refine an ?_
  first
    | refine aj (bo _ _ rfl rfl (by assumption)) ?_
    | refine aj (bo _ _ rfl rfl rfl) ?_
  refine ap (hK5 _ ?_)
  clear hK5;try clear K5
  refine ay fun K6 hK6=> ?_
  refine bZ rfl (fun hc14=> ?_) (fun hc14=> ?_)
  · skip
    have hia:=gD d.pend k ab
    have hm:d.pend.getD k (0,0)∈d.pend:=by rw [List.getD_eq_getElem?_getD,List.getElem?_eq_getElem ab];exact List.getElem_mem _
    have q0:=ho _ hm
    have q1:=hX d.pend b k ab
    have q2:=jg d.pend b k
    have ql:(gh d.cells (kept (d.pend.take k) b)).length=d.cells.length:=dn _ _
    have hap:=ea (gh d.cells (kept (d.pend.take k) b)) [d.pend.getD k (0,0)] (by simp) ab (fun x hx=> by rw [List.mem_singleton.1 hx,ql];exact q0)
    have hap:Spec Try.prog 25 (aZ [.ref (0,9) 0 d.cells.length, .sl 1 (gd [d.pend.getD k (0,0)])] [((0,9), .row 3 1 (ce (gh d.cells (kept (d.pend.take k) b))))]) (aS (.tup []) [((0,9), .row 3 1 (ce (gh (gh d.cells (kept (d.pend.take k) b)) [d.pend.getD k (0,0)])))] [(0,9)] [(0,9)]):=by rw [ql] at hap;exact hap
    rw [← fv] at hap
    generalize d.pend.getD k (0,0)=w at hia q0 q1 hap
    refine bw (hK6 _ ?_)
    clear hK6;try clear K6
    refine ay fun K7 hK7=> ?_
    refine cw ?_
    refine ay fun K8 hK8=> ?_
    refine an ?_
    refine aj (au _ bc) ?_
    first
      | refine aj (cV _ _ aa rfl rfl _ rfl ab (by first | assumption | decide | (simp only [bk,cu,cg,bk,bU];omega) | (simp;done) | (simp;omega) | (simp [ce,iz];omega)) (by first | exact Nat.mul_one _ | rfl | omega)) ?_
      | refine aj (cV _ _ aa rfl rfl (Int.toNat _) (Int.toNat_of_nonneg ab).symm ab (by first | assumption | decide | (simp only [bk,cu,cg,bk,bU];omega) | (simp;done) | (simp;omega) | (simp [ce,iz];omega)) (by first | exact Nat.mul_one _ | rfl | omega)) ?_
    refine aj (bg _ aa rfl (by exact hia) rfl) ?_
    refine aj (bb (7,0) aa rfl rfl) ?_
    refine aj (aM _ bc) ?_
    refine aj (aT _ _ aa rfl rfl rfl rfl (Nat.le_of_ble_eq_true rfl) rfl) ?_
    refine ap (hK8 _ ?_)
    clear hK8;try clear K8
    refine ay fun K9 hK9=> ?_
    refine an ?_
    refine aj (au _ bc) ?_
    refine aj (au _ kw) ?_
    refine aj (cL _ aa rfl) ?_
    first
      | refine aj (bo _ _ rfl rfl (by assumption)) ?_
      | refine aj (bo _ _ rfl rfl rfl) ?_
    refine aj (au _ dh) ?_
    refine iY (fun hg22=> ?_) (fun hg22=> ?_)
    · skip
      refine aL rfl rfl (au _ kw) ?_
      refine aL rfl rfl (au _ bc) ?_
      first
        | refine aL rfl rfl (cV _ _ aa rfl rfl _ rfl ab (by first | assumption | decide | (simp only [bk,cu,cg,bk,bU];omega) | (simp;done) | (simp;omega) | (simp [ce,iz];omega)) (by first | exact Nat.mul_one _ | rfl | omega)) ?_
        | refine aL rfl rfl (cV _ _ aa rfl rfl (Int.toNat _) (Int.toNat_of_nonneg ab).symm ab (by first | assumption | decide | (simp only [bk,cu,cg,bk,bU];omega) | (simp;done) | (simp;omega) | (simp [ce,iz];omega)) (by first | exact Nat.mul_one _ | rfl | omega)) ?_
      refine aL rfl rfl (eX _ aa rfl (by exact aG _ _ ab) rfl) ?_
      refine aj (bB _ _ _ rfl dh) ?_
      refine ap (hK9 _ ?_)
      clear hK9;try clear K9
      refine bZ rfl (fun hc27=> ?_) (fun hc27=> ?_)
      · skip
        refine bP (σ':=bC 36 [(1,_),(4,_),(5,_),(7,_),(11,_),(12,_),(13,_)] [((4,0),_),((5,0),_),((9,0),_),((7,0),_)] [] []) (by
          refine Le.mkJ [] [] rfl ?_ ?_ trivial trivial ?_
          · exact ⟨(iS rfl),(iP rfl),(iP rfl),(iP rfl),(iS rfl),(iV rfl),(iV rfl),trivial⟩
          · exact ⟨(bn rfl rfl rfl),(bn rfl rfl rfl),(bn rfl rfl rfl),(bn rfl rfl rfl),trivial⟩
          kernel_rfl) ?_
        refine an ?_
        first
          | refine aj (aA _ aa rfl rfl rfl) ?_
          | refine aj (aC _ aa rfl rfl) ?_
        first
          | refine aj (aK _ aa rfl rfl gx) ?_
          | refine aj (aN _ aa rfl rfl (by first | rfl | exact ax _ _ ab | exact aG _ _ ab | assumption | exact ax _ _ ab) rfl) ?_
        first
          | refine aj (bl _ aa rfl rfl rfl rfl) ?_
          | refine aj (bm _ aa rfl rfl (by first | rfl | assumption) rfl) ?_
          | refine aj (bg _ aa rfl (by first | rfl | assumption) rfl) ?_
        refine aj (dG _ _ aa rfl ag (by simp <;> rfl) ah (by exact (rfl:_=some (gd [w])))) ?_
        refine aj (cJ aa [((0,9),(9,0))] ?_ (hap) ⟨⟨rfl,⟨_,rfl, .rowE rfl⟩,rfl⟩,trivial⟩ ⟨rfl,trivial⟩ ae) ?_
        · repeat' (first | exact aD | refine aB ?_ ?_ | exact Lv.v | exact aF (by assumption) | exact aF ab | exact Lv.sl | exact Lv.fp | exact Lv.nil | exact aq rfl rfl | exact aP rfl | refine Lv.agg rfl ?_ | refine Lv.fn rfl ?_ rfl ?_ | refine Lv.ifc ?_ | exact am | refine ai ?_ ?_)
        refine ap (hK7 _ ?_)
        clear hK7;try clear K7
        refine an ?_
        first
          | refine aj (bA _ _ rfl rfl (dH ab)) ?_
          | refine aj (bA _ _ rfl rfl rfl) ?_
        refine aj (au _ bc) ?_
        refine ap ?_
        refine ⟨k+1,?_,?_,?_⟩
        · first | omega | trivial | exact ⟨by omega,by omega⟩
        · skip
          refine Le.mkJ [] [] rfl ?_ ?_ trivial trivial ?_
          · exact ⟨(iS rfl),(iP rfl),(iP rfl),(iS rfl),(iV rfl),(aF (by first | rfl | omega | (rw [q1 ab,if_pos hc27]) | (simp;done) | (simp;omega) | assumption)),trivial⟩
          · exact ⟨(bn rfl rfl rfl),(bn rfl rfl rfl),(kQ rfl rfl rfl (by first | rfl | omega | (rw [q1 ab,if_pos hc27]) | (simp;done) | (simp;omega) | assumption)),trivial⟩
          kernel_rfl
        omega
      refine bw (hK7 _ ?_)
      clear hK7;try clear K7
      refine bP (σ':=bC 36 [(1,_),(4,_),(5,_),(11,_),(12,_),(13,_)] [((4,0),_),((5,0),_),((9,0),_)] [] []) (by
        refine Le.mkJ [] [] rfl ?_ ?_ trivial trivial ?_
        · exact ⟨(iS rfl),(iP rfl),(iP rfl),(iS rfl),(iV rfl),(iV rfl),trivial⟩
        · exact ⟨(bn rfl rfl rfl),(bn rfl rfl rfl),(bn rfl rfl rfl),trivial⟩
        kernel_rfl) ?_
      refine an ?_
      first
        | refine aj (bA _ _ rfl rfl (dH ab)) ?_
        | refine aj (bA _ _ rfl rfl rfl) ?_
      refine aj (au _ bc) ?_
      refine ap ?_
      refine ⟨k+1,?_,?_,?_⟩
      · first | omega | trivial | exact ⟨by omega,by omega⟩
      · skip
        refine Le.mkJ [] [] rfl ?_ ?_ trivial trivial ?_
        · exact ⟨(iS rfl),(iP rfl),(iP rfl),(iS rfl),(iV rfl),(aF (by first | rfl | omega | (rw [q1 ab,if_neg (by rw [hc27];decide),List.append_nil]) | (simp;done) | (simp;omega) | assumption)),trivial⟩
        · exact ⟨(bn rfl rfl rfl),(bn rfl rfl rfl),(kQ rfl rfl rfl (by first | rfl | omega | (rw [q1 ab,if_neg (by rw [hc27];decide),List.append_nil]) | (simp;done) | (simp;omega) | assumption)),trivial⟩
        kernel_rfl
      omega
    refine bz rfl rfl ah ?_
    refine bz rfl rfl ah ?_
    refine bz rfl rfl ah ?_
    refine bz rfl rfl ah ?_
    refine aj (bB _ _ _ rfl dh) ?_
    refine ap (hK9 _ ?_)
    clear hK9;try clear K9
    refine eE rfl rfl ?_
    refine bw (hK7 _ ?_)
    clear hK7;try clear K7
    refine bP (σ':=bC 36 [(1,_),(4,_),(5,_),(11,_),(12,_),(13,_)] [((4,0),_),((5,0),_),((9,0),_)] [] []) (by
      refine Le.mkJ [] [] rfl ?_ ?_ trivial trivial ?_
      · exact ⟨(iS rfl),(iP rfl),(iP rfl),(iS rfl),(iV rfl),(iV rfl),trivial⟩
      · exact ⟨(bn rfl rfl rfl),(bn rfl rfl rfl),(bn rfl rfl rfl),trivial⟩
      kernel_rfl) ?_
    refine an ?_
    first
      | refine aj (bA _ _ rfl rfl (dH ab)) ?_
      | refine aj (bA _ _ rfl rfl rfl) ?_
    refine aj (au _ bc) ?_
    refine ap ?_
    refine ⟨k+1,?_,?_,?_⟩
    · first | omega | trivial | exact ⟨by omega,by omega⟩
    · skip
      refine Le.mkJ [] [] rfl ?_ ?_ trivial trivial ?_
      · exact ⟨(iS rfl),(iP rfl),(iP rfl),(iS rfl),(iV rfl),(aF (by first | rfl | omega | (rw [q2 ab]) | (simp;done) | (simp;omega) | assumption)),trivial⟩
      · exact ⟨(bn rfl rfl rfl),(bn rfl rfl rfl),(kQ rfl rfl rfl (by first | rfl | omega | (rw [q2 ab]) | (simp;done) | (simp;omega) | assumption)),trivial⟩
      kernel_rfl
    omega
  refine eP ?_
  refine id (hK3 _ ?_)
  clear hK3;try clear K3
  refine ay fun K10 hK10=> ?_
  refine an ?_
  first
    | refine aj (aA _ aa rfl rfl rfl) ?_
    | refine aj (aC _ aa rfl rfl) ?_
  refine aj (aT _ _ aa rfl rfl rfl rfl (Nat.le_of_ble_eq_true rfl) rfl) ?_
  refine ap (hK10 _ ?_)
  clear hK10;try clear K10
  refine ay fun K11 hK11=> ?_
  refine an ?_
  first
    | refine aj (bl _ aa rfl rfl rfl rfl) ?_
    | refine aj (bm _ aa rfl rfl (by first | rfl | assumption) rfl) ?_
    | refine aj (bg _ aa rfl (by first | rfl | assumption) rfl) ?_
  refine aj (aT _ _ aa rfl rfl rfl rfl (Nat.le_of_ble_eq_true rfl) rfl) ?_
  refine ap (hK11 _ ?_)
  clear hK11;try clear K11
  refine br ?_
  exact dk (.inr rfl) rfl (.cellA aa rfl rfl rfl) (Le.out [((0,8),(9,0))] [] (.agg rfl (ai (aq rfl rfl) (ai .v am))) rfl rfl rfl trivial ⟨⟨rfl,⟨_,rfl, .rowE (by unfold Dk.crash;rw [List.take_of_length_le ab])⟩,rfl⟩,trivial⟩)
theorem js (d:Dk) (h1:d.cells.length≤1000000) (h2:d.pend.length≤1000000) (ho:la d) (b:List Bool) (hb:b.length≤1000000):
    Spec Try.prog 10 (bq [eZ d, .sl b.length (iz b)] []) (aX (eZ (d.crash b)) []):=
  (jI d h1 h2 ho b hb).toI.mono (Le.outO [] [(0,8)] (.agg rfl (ai (oa rfl rfl (dn _ _).symm rfl) (ai .nil am))) rfl rfl rfl ⟨rfl,trivial⟩ trivial)
theorem DkG.write {d:Dk} (h:DkG d) (c v:Int):DkG (d.write c v):=by
  unfold Dk.write
  have hn:=h.n
  have hm:=h.m
  split
  · exact h
  rename_i hc
  have hp: ∀ w∈d.pend++[(c,v)],0≤w.1∧w.1 < (d.cells.length:Int):=fun w hw=> by
    rcases List.mem_append.1 hw with hw | hw
    · exact h.ok w hw
    simp at hw;subst hw;exact ⟨by simp only;omega,by simp only;omega⟩
  split
  · exact ⟨by simp only;rw [dn];exact hn,by simp;omega,fun w hw=> by simp only [dn];exact hp w (List.mem_of_mem_drop hw)⟩
  exact ⟨hn,by simp;omega,hp⟩
theorem jS (xs:List Int) (h:xs.length≤4611686018427387904):Spec Try.prog 19 (bq [.sl xs.length (ce xs), .sl xs.length (ce xs)] []) (aX (.v (.bool true)) []):=by
  have:=kv xs.length xs.length xs xs rfl rfl h h
  rwa [decide_eq_true rfl] at this
theorem jF:Spec Try.prog 14 (bq [] []) (aX (.v (.bool true)) []):=by
  have nw:Spec Try.prog 18 (bq [.v (.int .i64 2)] []) (aX (eZ ⟨[0,0],[]⟩) []):=jc 2 ah
  have w1:Spec Try.prog 7 (bq [eZ ⟨[0,0],[]⟩, .v (.int .i64 0), .v (.int .i64 5)] []) (aX (eZ ⟨[0,0],[(0,5)]⟩) []):=
    dJ ⟨[0,0],[]⟩ ah ah 0 5 ah ah ah
  have w2:Spec Try.prog 7 (bq [eZ ⟨[0,0],[(0,5)]⟩, .v (.int .i64 1), .v (.int .i64 6)] []) (aX (eZ ⟨[0,0],[(0,5),(1,6)]⟩) []):=
    dJ ⟨[0,0],[(0,5)]⟩ ah ah 1 6 ah ah ah
  have w3:Spec Try.prog 7 (bq [eZ ⟨[0,0],[(0,5),(1,6)]⟩, .v (.int .i64 0), .v (.int .i64 7)] []) (aX (eZ ⟨[0,0],[(0,5),(1,6),(0,7)]⟩) []):=
    dJ ⟨[0,0],[(0,5),(1,6)]⟩ ah ah 0 7 ah ah ah
  have ok3:la ⟨[0,0],[(0,5),(1,6),(0,7)]⟩:=by
    intro p hp
    simp at hp
    rcases hp with rfl | rfl | rfl <;> decide
  have vw:Spec Try.prog 12 (bq [eZ ⟨[0,0],[(0,5),(1,6),(0,7)]⟩] []) (aX (.sl 2 (ce [7,6])) []):=
    gm ⟨[0,0],[(0,5),(1,6),(0,7)]⟩ ah ah ok3
  have cr:Spec Try.prog 10 (bq [eZ ⟨[0,0],[(0,5),(1,6),(0,7)]⟩, .sl 3 (iz [true,false,false])] []) (aX (eZ ⟨[5,0],[]⟩) []):=
    js ⟨[0,0],[(0,5),(1,6),(0,7)]⟩ ah ah ok3 [true,false,false] ah
  refine Spec.ofN Try.func14 rfl Try.ntmps14 rfl ?_
  refine ay fun K1 hK1=> ?_
  refine an ?_
  refine aj (aM _ dh) ?_
  refine ap (hK1 _ ?_)
  clear hK1;try clear K1
  refine ay fun K2 hK2=> ?_
  refine an ?_
  refine aj (ba aa (by repeat' (first | exact aJ | refine aI ?_ ?_ | exact Lv.v | exact aF ab | exact Lv.sl | exact Lv.fp | exact Lv.nil | refine Lv.agg rfl ?_ | refine Lv.fn rfl ?_ rfl ?_ | exact am | refine ai ?_ ?_ | exact Lv.z0)) (nw) rfl rfl) ?_
  refine aj (ba aa (by repeat' (first | exact aJ | refine aI ?_ ?_ | exact Lv.v | exact aF ab | exact Lv.sl | exact Lv.fp | exact Lv.nil | refine Lv.agg rfl ?_ | refine Lv.fn rfl ?_ rfl ?_ | exact am | refine ai ?_ ?_ | exact Lv.z0)) (w1) rfl rfl) ?_
  refine aj (ba aa (by repeat' (first | exact aJ | refine aI ?_ ?_ | exact Lv.v | exact aF ab | exact Lv.sl | exact Lv.fp | exact Lv.nil | refine Lv.agg rfl ?_ | refine Lv.fn rfl ?_ rfl ?_ | exact am | refine ai ?_ ?_ | exact Lv.z0)) (w2) rfl rfl) ?_
  refine aj (ba aa (by repeat' (first | exact aJ | refine aI ?_ ?_ | exact Lv.v | exact aF ab | exact Lv.sl | exact Lv.fp | exact Lv.nil | refine Lv.agg rfl ?_ | refine Lv.fn rfl ?_ rfl ?_ | exact am | refine ai ?_ ?_ | exact Lv.z0)) (w3) rfl rfl) ?_
  refine aj (bb (1,0) aa rfl rfl) ?_
  refine aj (aT _ _ aa rfl rfl rfl rfl (Nat.le_of_ble_eq_true rfl) rfl) ?_
  refine ap (hK2 _ ?_)
  clear hK2;try clear K2
  refine ay fun K3 hK3=> ?_
  refine an ?_
  first
    | refine aj (bl _ aa rfl rfl rfl rfl) ?_
    | refine aj (bm _ aa rfl rfl (by first | rfl | assumption) rfl) ?_
    | refine aj (bg _ aa rfl (by first | rfl | assumption) rfl) ?_
  refine aj (ba aa (by repeat' (first | exact aJ | refine aI ?_ ?_ | exact Lv.v | exact aF ab | exact Lv.sl | exact Lv.fp | exact Lv.nil | refine Lv.agg rfl ?_ | refine Lv.fn rfl ?_ rfl ?_ | exact am | refine ai ?_ ?_ | exact Lv.z0)) (vw) rfl rfl) ?_
  refine aj (dG _ _ aa rfl ag (by first | (simp <;> rfl) | (simp;exact ⟨rfl,rfl⟩) | (simp;exact ⟨rfl,rfl,rfl⟩)) ah rfl) ?_
  refine aj (ba aa (by repeat' (first | exact aJ | refine aI ?_ ?_ | exact Lv.v | exact aF ab | exact Lv.sl | exact Lv.fp | exact Lv.nil | refine Lv.agg rfl ?_ | refine Lv.fn rfl ?_ rfl ?_ | exact am | refine ai ?_ ?_ | exact Lv.z0)) (jS [7,6] ah) rfl rfl) ?_
  refine aj (au _ dh) ?_
  first
    | refine aL rfl rfl (bl _ aa rfl rfl rfl rfl) ?_
    | refine aL rfl rfl (bm _ aa rfl rfl (by first | rfl | assumption) rfl) ?_
    | refine aL rfl rfl (bg _ aa rfl (by first | rfl | assumption) rfl) ?_
  refine aL rfl rfl (dG _ _ aa rfl ag (by first | (simp <;> rfl) | (simp;exact ⟨rfl,rfl⟩) | (simp;exact ⟨rfl,rfl,rfl⟩)) ah rfl) ?_
  refine aL rfl rfl (ba aa (by repeat' (first | exact aJ | refine aI ?_ ?_ | exact Lv.v | exact aF ab | exact Lv.sl | exact Lv.fp | exact Lv.nil | refine Lv.agg rfl ?_ | refine Lv.fn rfl ?_ rfl ?_ | exact am | refine ai ?_ ?_ | exact Lv.z0)) (cr) rfl rfl) ?_
  first
    | refine aL rfl rfl (el _ aa rfl et) ?_
    | refine aL rfl rfl (el _ aa rfl gx) ?_
    | refine aL rfl rfl (el _ aa rfl (rfl:_=some (AV.v (.slice _ _ _)))) ?_
    | refine aL rfl rfl (el _ aa rfl (rfl:_=some (AV.z))) ?_
    | refine aL rfl rfl (kV _ aa rfl rfl rfl) ?_
  refine aL rfl rfl (dG _ _ aa rfl ag (by first | (simp <;> rfl) | (simp;exact ⟨rfl,rfl⟩) | (simp;exact ⟨rfl,rfl,rfl⟩)) ah rfl) ?_
  refine aL rfl rfl (ba aa (by repeat' (first | exact aJ | refine aI ?_ ?_ | exact Lv.v | exact aF ab | exact Lv.sl | exact Lv.fp | exact Lv.nil | refine Lv.agg rfl ?_ | refine Lv.fn rfl ?_ rfl ?_ | exact am | refine ai ?_ ?_ | exact Lv.z0)) (jS [5,0] ah) rfl rfl) ?_
  refine aj (bB _ _ _ rfl dh) ?_
  refine aj (aM _ dh) ?_
  refine ap (hK3 _ ?_)
  clear hK3;try clear K3
  refine br ?_
  exact km rfl rfl

def eJ (l:List Ac):Dk:=l.foldl (fun d a=> if a.k=1 then d.write a.a a.b else d) ⟨[0],[]⟩
theorem kO (l:List Ac) (k:Nat) (h:k < l.length):eJ (l.take (k+1))=if (jv l k).k=1 then (eJ (l.take k)).write (jv l k).a (jv l k).b else eJ (l.take k):=by
  have e:l.take (k+1)=l.take k++[jv l k]:=by
    rw [List.take_add_one,List.getElem?_eq_getElem h];unfold jv;rw [List.getD_eq_getElem?_getD,List.getElem?_eq_getElem h];rfl
  rw [e];unfold eJ;rw [List.foldl_append];rfl
theorem kP (d:Dk) (c v:Int):(d.write c v).cells.length=d.cells.length:=by
  unfold Dk.write;split
  · rfl
  split
  · simp
  rfl
theorem mR {d:Dk} {c v:Int} (h0:0≤c) (h1:c < (d.cells.length:Int)):(d.write c v).view=d.view.set c.toNat v:=by
  unfold Dk.write
  rw [if_neg ab]
  split
  · unfold Dk.view
    simp only
    rw [← fv,List.take_append_drop,fv];rfl
  unfold Dk.view
  simp only
  rw [fv];rfl
theorem iq: ∀ (l:List Ac),(∀ a∈l,a.k=1→0≤a.a∧a.a < 1)→ ∀ d,DkG d→d.cells.length=1→
    DkG (l.foldl (fun d a=> if a.k=1 then d.write a.a a.b else d) d)∧(l.foldl (fun d a=> if a.k=1 then d.write a.a a.b else d) d).cells.length=1∧
    (l.foldl (fun d a=> if a.k=1 then d.write a.a a.b else d) d).view=jB d.view l
  | [],_,d,hg,hl=> ⟨hg,hl,rfl⟩
  | a::l,h,d,hg,hl=> by
    have ih:=iq l (fun b hb=> h b (List.mem_cons_of_mem _ hb))
    by_cases hk:a.k=1
    · obtain ⟨h0,h1⟩:=h a List.mem_cons_self hk
      have ih:=ih (d.write a.a a.b) (hg.write _ _) ((kP d _ _).trans hl)
      rw [mR h0 ab] at ih
      simp only [List.foldl_cons,if_pos hk,jB] at ih ⊢
      exact ih
    have ih:=ih d hg hl
    simp only [List.foldl_cons,if_neg hk,jB] at ih ⊢
    exact ih
theorem pJ:DkG ⟨[0],[]⟩:=⟨by decide,by decide,fun w hw=> by simp at hw⟩
theorem li {l:List Ac} (h: ∀ a∈l,a.k=1→0≤a.a∧a.a < 1):DkG (eJ l):=(iq l h _ pJ rfl).1
theorem kz {l:List Ac} (h: ∀ a∈l,a.k=1→0≤a.a∧a.a < 1):(eJ l).view=jB [0] l:=(iq l h _ pJ rfl).2.2
abbrev fM (I J:Int):Mk:=⟨ka I J,[0],[0,2],[]⟩
theorem lG (I J:Int) (hI:Rg I) (hJ:Rg J): ∃ R:Ms,R.vars.length=1∧(∀ a∈R.acts,a.k=1→0≤a.a∧a.a < 1)∧R.acts.length≤500∧R.vars=jB [0] R.acts∧ ∃ (cv:List Int),
    Spec Try.prog 16 (aZ [qc (ka I J), .v (.int .i64 0), .agg [.sl 1 (ce [0]), .v (.int .i64 0), .v (.int .i64 2), .v (.int .i64 0), .v (.int .i64 0), .v (.int .i64 0), .v (.int .i64 0), .v (.int .i64 0), .v (.int .i64 0), .v (.int .i64 0)],nk] []) (aS (.agg [.sl R.vars.length (ce R.vars), .ref (2,8) 0 R.acts.length, .v (.int .i64 (R.steps:Int)), .v (.bool (!R.fin)), .sl cv.length (ce cv)]) [((2,8), .row 54 5 (mr R.acts))] [(2,8)] []):=by
  have hm: ∀ i,Rg (([0,2]:List Int).getD i 0):=kb (fun x hx=> by
    simp only [List.mem_cons,List.not_mem_nil,or_false] at hx
    unfold Rg
    rcases hx with rfl | rfl <;> omega)
  have hP:PG (fM I J).cx gy 1:=mJ hI hJ hm
  have hir: ∀ v∈([0]:List Int),Rg v:=fun x hx=> by
    rw [List.mem_singleton.1 hx];unfold Rg;omega
  have hat0:=jm (K:=(fM I J).cx) (D:=gy) (vars:=[0]) (e:=0) (nv:=1) rfl hir (by show 0 < (gW I J).length;exact Nat.zero_lt_succ _) rfl
  have hat:=oo hP hat0 500
  have hst:=(gS (K:=(fM I J).cx) 500 (bT [0] 0)).1
  have hsz:Sz (dX (fM I J).cx 500 (bT [0] 0)):=fq (I:=Sz) (fun s hs _=> kh hs) 500 _ ⟨Nat.le_refl _,Nat.le_refl _,Nat.le_refl _⟩
  have hwr:=mP hP hat0 500
  have hr:=kJ (fM I J) pN gy 1 hP 0 ah 0 rfl (by show 0 < (gW I J).length;exact Nat.zero_lt_succ _) rfl rfl hir ah (by show (gW I J).length≤1000000;exact (by decide:14≤1000000)) rfl _ rfl
  refine ⟨dX (fM I J).cx 500 (bT [0] 0),hat.iv.vl,fun a ha hk=> ?_,?_,?_,_,hr⟩
  · have h1:=((hat.iv.ac a ha).2.2 hk).1
    have h2:=((hat.iv.ac a ha).2.2 hk).2.2
    exact ⟨h1,h2⟩
  · have h2:=hsz.ac
    have h3:(dX (fM I J).cx 500 (bT [0] 0)).steps≤0+500:=hst
    omega
  have hv:=hat.iv.vl
  have e:(dX (fM I J).cx 500 (bT [0] 0)).vars.take (fM I J).cx.dur=(dX (fM I J).cx 500 (bT [0] 0)).vars:=List.take_of_length_le (by rw [hv];exact Nat.le_refl 1)
  rw [← e];exact hwr
theorem iI (it to:Int) (h1: -9223372036854775808≤it∧it≤9223372036854775807) (h2: -9223372036854775808≤to∧to≤9223372036854775807):
    Spec Try.prog 4 (bq [.v (.int .i64 it), .v (.int .i64 to)] []) (aX (.v (.bool true)) []):=by
  have hlv:=jF
  have a1:=ga it 31 ab ab h1.1 h1.2
  have a2:=gV it 31 ab
  have a3:=gO it 31 ab
  have b1:=ga to 3 ab ab h2.1 h2.2
  have b2:=gV to 3 ab
  have b3:=gO to 3 ab
  generalize eS it 31=I at a1 a2 a3
  generalize eS to 3=J at b1 b2 b3
  have hby:=kM I J
  obtain ⟨R,r1,r2,r3,r4,cv,hr⟩:=lG I J (by unfold Rg;omega) (by unfold Rg;omega)
  have hnw:Spec Try.prog 18 (bq [.v (.int .i64 1)] []) (aX (eZ ⟨[0],[]⟩) []):=jc 1 ah
  have r4':R.vars=(eJ R.acts).view:=r4.trans (kz r2).symm
  have r5:(eJ R.acts).view.length=1:=by rw [← r4'];exact r1
  have hsm:=jS (eJ R.acts).view ab
  have r2': ∀ k,∀ a∈R.acts.take k,a.k=1→0≤a.a∧a.a < 1:=fun k a ha=> r2 a (List.mem_of_mem_take ha)
  have gF:=li r2
  have gF1:=gF.n
  have gF2:=gF.m
  have hvw:=gm (eJ R.acts) ab ab gF.ok
  generalize R.vars=V at hr r1 r4'
  generalize R.acts=A at hr r2 r3 r4' r5 hsm r2' gF gF1 gF2 hvw
  subst r4'
  generalize ka I J=P at hby hr
  refine Spec.ofN Try.func4 rfl Try.ntmps4 rfl ?_
  refine ay fun K1 hK1=> ?_
  refine an ?_
  refine aj (aM _ dh) ?_
  refine ap (hK1 _ ?_)
  clear hK1;try clear K1
  refine ay fun K2 hK2=> ?_
  refine an ?_
  refine aj (au _ bc) ?_
  refine aj (ba aa (by repeat' (first | exact aJ | refine aI ?_ ?_ | exact Lv.v | exact aF ab | exact Lv.sl | exact Lv.fp | exact Lv.nil | refine Lv.agg rfl ?_ | refine Lv.fn rfl ?_ rfl ?_ | exact am | refine ai ?_ ?_ | exact Lv.z0)) (a1) rfl rfl) ?_
  refine aj (au _ bc) ?_
  refine aj (ba aa (by repeat' (first | exact aJ | refine aI ?_ ?_ | exact Lv.v | exact aF ab | exact Lv.sl | exact Lv.fp | exact Lv.nil | refine Lv.agg rfl ?_ | refine Lv.fn rfl ?_ rfl ?_ | exact am | refine ai ?_ ?_ | exact Lv.z0)) (b1) rfl rfl) ?_
  refine aj (ba aa (by repeat' (first | exact aJ | refine aI ?_ ?_ | exact Lv.v | exact aF ab | exact Lv.sl | exact Lv.fp | exact Lv.nil | refine Lv.agg rfl ?_ | refine Lv.fn rfl ?_ rfl ?_ | exact am | refine ai ?_ ?_ | exact Lv.z0)) (hby) rfl rfl) ?_
  refine aj (bb (5,0) aa rfl rfl) ?_
  refine aj (aT _ _ aa rfl rfl rfl rfl (Nat.le_of_ble_eq_true rfl) rfl) ?_
  refine ap (hK2 _ ?_)
  clear hK2;try clear K2
  refine ay fun K3 hK3=> ?_
  refine an ?_
  refine aj (bb (6,0) aa rfl rfl) ?_
  refine ap (hK3 _ ?_)
  clear hK3;try clear K3
  refine ay fun K4 hK4=> ?_
  refine an ?_
  refine aj (em _ _ aa rfl rfl rfl 1 rfl ab (by first | exact (Nat.zero_add _).trans (Nat.mul_one _) | exact Nat.zero_add _ | rfl | omega)) ?_
  refine aj (aT _ _ aa rfl rfl rfl rfl (Nat.le_of_ble_eq_true rfl) rfl) ?_
  refine ap (hK4 _ ?_)
  clear hK4;try clear K4
  refine ay fun K5 hK5=> ?_
  refine an ?_
  first
    | refine aj (bl _ aa rfl rfl rfl rfl) ?_
    | refine aj (bm _ aa rfl rfl (by first | rfl | assumption) rfl) ?_
    | refine aj (bg _ aa rfl (by first | rfl | assumption) rfl) ?_
  refine aj (dG (xs:=ce [0]) _ _ aa rfl ag (by simp <;> rfl) ah rfl) ?_
  first
    | refine aj (bl _ aa rfl rfl rfl rfl) ?_
    | refine aj (bm _ aa rfl rfl (by first | rfl | assumption) rfl) ?_
    | refine aj (bg _ aa rfl (by first | rfl | assumption) rfl) ?_
  refine aj (bf _ aa rfl (by exact (rfl:_=some [_,_,_,_,_,_,_,_,_,_]))) ?_
  refine aj (cJ aa [((2,8),(20,0))] ?_ (hr) trivial ⟨rfl,trivial⟩ ae) ?_
  · repeat' (first | exact aD | refine aB ?_ ?_ | exact Lv.v | exact aF (by assumption) | exact aF ab | exact Lv.sl | exact Lv.fp | exact Lv.nil | exact aq rfl rfl | exact aP rfl | refine Lv.agg rfl ?_ | refine Lv.fn rfl ?_ rfl ?_ | refine Lv.ifc ?_ | exact am | refine ai ?_ ?_)
  refine aj (bb (7,0) aa rfl rfl) ?_
  refine aj (aT _ _ aa rfl rfl rfl rfl (Nat.le_of_ble_eq_true rfl) rfl) ?_
  refine ap (hK5 _ ?_)
  clear hK5;try clear K5
  refine ay fun K6 hK6=> ?_
  refine bP (σ':=bC 64 [(7,_)] [((20,0),_),((7,0),_)] [] []) (by
    refine Le.mkJ [] [] rfl ?_ ?_ trivial trivial ?_
    · exact ⟨(iP rfl),trivial⟩
    · exact ⟨(bn rfl rfl rfl),(bn rfl rfl rfl),trivial⟩
    kernel_rfl) ?_
  refine an ?_
  refine aj (ba aa (by repeat' (first | exact aJ | refine aI ?_ ?_ | exact Lv.v | exact aF ab | exact Lv.sl | exact Lv.fp | exact Lv.nil | refine Lv.agg rfl ?_ | refine Lv.fn rfl ?_ rfl ?_ | exact am | refine ai ?_ ?_ | exact Lv.z0)) (hnw) rfl rfl) ?_
  refine aj (bb (8,0) aa rfl rfl) ?_
  refine aj (aT _ _ aa rfl rfl rfl rfl (Nat.le_of_ble_eq_true rfl) rfl) ?_
  refine ap (hK6 _ ?_)
  clear hK6;try clear K6
  refine ay fun K7 hK7=> ?_
  refine ay fun K8 hK8=> ?_
  refine an ?_
  refine aj (aM _ bc) ?_
  refine ap (hK8 _ ?_)
  clear hK8;try clear K8
  refine cw ?_
  refine ez (α:=Nat) (fun k=> k≤A.length) 64 [(7,_),(8,_)] [((20,0),_),((7,0),_)] (fun k=> [(9, .v (.int .i64 (k:Int)))]) (fun k=> [((8,0), .box 25 [.sl (eJ (A.take k)).cells.length (ce (eJ (A.take k)).cells), .sl (eJ (A.take k)).pend.length (gd (eJ (A.take k)).pend)])]) [] [] (fun k=> A.length - k) 0 ?_ (by
    refine Le.mkJ [] [] rfl ?_ ?_ trivial trivial ?_
    · exact ⟨(iP rfl),(iP rfl),(aF (by first | rfl | omega | (rw [hs]) | (simp;done) | (simp;omega) | assumption)),trivial⟩
    · exact ⟨(bn rfl rfl rfl),(bn rfl rfl rfl),(mq rfl rfl rfl rfl (ai (fy (by first | rfl | omega | (rw [hs]) | (simp;done) | (simp;omega) | assumption) (by first | rfl | omega | (rw [hs]) | (simp;done) | (simp;omega) | assumption)) (ai (fy (by first | rfl | omega | (rw [hs]) | (simp;done) | (simp;omega) | assumption) (by first | rfl | omega | (rw [hs]) | (simp;done) | (simp;omega) | assumption)) am))),trivial⟩
    kernel_rfl) ?_
  · first | omega | trivial | exact ⟨by omega,by omega⟩
  intro k hk
  refine ay fun K9 hK9=> ?_
  refine ay fun K10 hK10=> ?_
  refine an ?_
  refine aj (au _ bc) ?_
  first
    | refine aj (aA _ aa rfl rfl rfl) ?_
    | refine aj (aC _ aa rfl rfl) ?_
  first
    | refine aj (aK _ aa rfl rfl gx) ?_
    | refine aj (aN _ aa rfl rfl (by first | rfl | exact ax _ _ ab | exact aG _ _ ab | assumption | exact ax _ _ ab | exact dz _ _ ab | exact dA _ _ ab) rfl) ?_
  first
    | refine aj (dO _ aa rfl rfl) ?_
    | refine aj (dM _ aa rfl rfl) ?_
  first
    | refine aj (bo _ _ rfl rfl (by assumption)) ?_
    | refine aj (bo _ _ rfl rfl rfl) ?_
  refine ap (hK10 _ ?_)
  clear hK10;try clear K10
  refine bZ rfl (fun hc26=> ?_) (fun hc26=> ?_)
  · skip
    have hs:=kO A k ab
    have hg:=li (r2' k)
    have hg1:=hg.n
    have hg2:=hg.m
    have g0:=dz A k ab
    have g1:=dA A k ab
    have g2:=lm A k ab
    have hw:=jd (eJ (A.take k)) ab ab hg.ok (jv A k).a (jv A k).b
    generalize jv A k=x at hs g0 g1 g2 hw
    refine bw (hK9 _ ?_)
    clear hK9;try clear K9
    refine ay fun K11 hK11=> ?_
    refine cw ?_
    refine ay fun K12 hK12=> ?_
    refine an ?_
    first
      | refine aj (aA _ aa rfl rfl rfl) ?_
      | refine aj (aC _ aa rfl rfl) ?_
    first
      | refine aj (aK _ aa rfl rfl gx) ?_
      | refine aj (aN _ aa rfl rfl (by first | rfl | exact ax _ _ ab | exact aG _ _ ab | assumption | exact ax _ _ ab | exact dz _ _ ab | exact dA _ _ ab) rfl) ?_
    refine aj (au _ bc) ?_
    first
      | refine aj (bL _ _ aa rfl rfl rfl _ rfl ab (by first | exact (Nat.zero_add _).trans (Nat.mul_one _) | exact Nat.zero_add _ | rfl | omega)) ?_
      | refine aj (bL _ _ aa rfl rfl rfl (Int.toNat _) (Int.toNat_of_nonneg ab).symm ab (by first | exact (Nat.zero_add _).trans (Nat.mul_one _) | exact Nat.zero_add _ | rfl | omega)) ?_
    first
      | refine aj (aA _ aa rfl rfl rfl) ?_
      | refine aj (aC _ aa rfl rfl) ?_
    refine aj (aN _ aa rfl rfl (by exact g0) rfl) ?_
    refine aj (ca (r:=decide (x.k=1)) _ _ rfl rfl ag) ?_
    refine ap (hK12 _ ?_)
    clear hK12;try clear K12
    refine bZ rfl (fun hc35=> ?_) (fun hc35=> ?_)
    · skip
      have hx:x.k=1:=by simpa using hc35
      rw [if_pos hx] at hs
      rw [← hs] at hw
      refine bP (σ':=bC 64 [(7,_),(8,_),(9,_)] [((20,0),_),((7,0),_),((8,0),_)] [] []) (by
        refine Le.mkJ [] [] rfl ?_ ?_ trivial trivial ?_
        · exact ⟨(iP rfl),(iP rfl),(iV rfl),trivial⟩
        · exact ⟨(bn rfl rfl rfl),(bn rfl rfl rfl),(bn rfl rfl rfl),trivial⟩
        kernel_rfl) ?_
      refine de 14 [36,37,38,39,40,41,42,43,44,45,46,47,48,49] [] ae ae rfl (aQ rfl) (rfl:_=[_,_,_,_,_,_,_,_,_,_,_,_,_,_]) (rfl:_=[_]) ?_
      first
        | refine az (_,[]) (fun τ=> bl _ aa rfl rfl rfl rfl) ?_
        | refine az (_,[]) (fun τ=> bm _ aa rfl rfl (by first | rfl | assumption) rfl) ?_
        | refine az (_,[]) (fun τ=> bg _ aa rfl (by first | rfl | assumption) rfl) ?_
      refine aE (rfl:_=[_]) ?_
      first
        | refine az (_,[]) (fun τ=> aA _ aa rfl rfl rfl) ?_
        | refine az (_,[]) (fun τ=> aC _ aa rfl rfl) ?_
      refine aE (rfl:_=[_,_]) ?_
      first
        | refine az (_,[]) (fun τ=> aK _ aa rfl rfl gx) ?_
        | refine az (_,[]) (fun τ=> aN _ aa rfl rfl (by first | rfl | exact ax _ _ ab | exact aG _ _ ab | assumption | exact ax _ _ ab | exact dz _ _ ab | exact dA _ _ ab) rfl) ?_
      refine aE (rfl:_=[_,_,_]) ?_
      refine az (_,[]) (fun τ=> au _ bc) ?_
      refine aE (rfl:_=[_,_,_,_]) ?_
      first
        | refine az (_,[]) (fun τ=> bL _ _ aa rfl rfl rfl _ rfl ab (by first | exact (Nat.zero_add _).trans (Nat.mul_one _) | exact Nat.zero_add _ | rfl | omega)) ?_
        | refine az (_,[]) (fun τ=> bL _ _ aa rfl rfl rfl (Int.toNat _) (Int.toNat_of_nonneg ab).symm ab (by first | exact (Nat.zero_add _).trans (Nat.mul_one _) | exact Nat.zero_add _ | rfl | omega)) ?_
      refine aE (rfl:_=[_,_,_,_,_]) ?_
      first
        | refine az (_,[]) (fun τ=> aA _ aa rfl rfl rfl) ?_
        | refine az (_,[]) (fun τ=> aC _ aa rfl rfl) ?_
      refine aE (rfl:_=[_,_,_,_,_,_]) ?_
      refine az (_,[]) (fun τ=> aN _ aa rfl rfl (by exact g1) rfl) ?_
      refine aE (rfl:_=[_,_,_,_,_,_,_]) ?_
      first
        | refine az (_,[]) (fun τ=> aA _ aa rfl rfl rfl) ?_
        | refine az (_,[]) (fun τ=> aC _ aa rfl rfl) ?_
      refine aE (rfl:_=[_,_,_,_,_,_,_,_]) ?_
      first
        | refine az (_,[]) (fun τ=> aK _ aa rfl rfl gx) ?_
        | refine az (_,[]) (fun τ=> aN _ aa rfl rfl (by first | rfl | exact ax _ _ ab | exact aG _ _ ab | assumption | exact ax _ _ ab | exact dz _ _ ab | exact dA _ _ ab) rfl) ?_
      refine aE (rfl:_=[_,_,_,_,_,_,_,_,_]) ?_
      refine az (_,[]) (fun τ=> au _ bc) ?_
      refine aE (rfl:_=[_,_,_,_,_,_,_,_,_,_]) ?_
      first
        | refine az (_,[]) (fun τ=> bL _ _ aa rfl rfl rfl _ rfl ab (by first | exact (Nat.zero_add _).trans (Nat.mul_one _) | exact Nat.zero_add _ | rfl | omega)) ?_
        | refine az (_,[]) (fun τ=> bL _ _ aa rfl rfl rfl (Int.toNat _) (Int.toNat_of_nonneg ab).symm ab (by first | exact (Nat.zero_add _).trans (Nat.mul_one _) | exact Nat.zero_add _ | rfl | omega)) ?_
      refine aE (rfl:_=[_,_,_,_,_,_,_,_,_,_,_]) ?_
      first
        | refine az (_,[]) (fun τ=> aA _ aa rfl rfl rfl) ?_
        | refine az (_,[]) (fun τ=> aC _ aa rfl rfl) ?_
      refine aE (rfl:_=[_,_,_,_,_,_,_,_,_,_,_,_]) ?_
      refine az (_,[]) (fun τ=> aN _ aa rfl rfl (by exact g2) rfl) ?_
      refine aE (rfl:_=[_,_,_,_,_,_,_,_,_,_,_,_,_]) ?_
      refine az (_,[]) (fun τ=> (ba aa (by repeat' (first | exact aJ | refine aI ?_ ?_ | exact Lv.v | exact aF ab | exact Lv.sl | exact Lv.fp | exact Lv.nil | refine Lv.agg rfl ?_ | refine Lv.fn rfl ?_ rfl ?_ | exact am | refine ai ?_ ?_ | exact Lv.z0)) (hw) rfl rfl)) ?_
      refine aE (rfl:_=[_,_,_,_,_,_,_,_,_,_,_,_,_,_]) ?_
      refine cf ⟨rfl,?_⟩
      refine aj (aT _ _ aa rfl rfl rfl rfl (Nat.le_of_ble_eq_true rfl) rfl) ?_
      refine ap (hK11 _ ?_)
      clear hK11;try clear K11
      refine bP (σ':=bC 64 [(7,_),(8,_),(9,_)] [((20,0),_),((7,0),_),((8,0),_)] [] []) (by
        refine Le.mkJ [] [] rfl ?_ ?_ trivial trivial ?_
        · exact ⟨(iP rfl),(iP rfl),(iV rfl),trivial⟩
        · exact ⟨(bn rfl rfl rfl),(bn rfl rfl rfl),(bn rfl rfl rfl),trivial⟩
        kernel_rfl) ?_
      refine an ?_
      refine aj (au _ bc) ?_
      first
        | refine aj (bA _ _ rfl rfl (dH ab)) ?_
        | refine aj (bA _ _ rfl rfl rfl) ?_
      refine aj (aM _ bc) ?_
      refine ap ?_
      refine ⟨k+1,?_,?_,?_⟩
      · first | omega | trivial | exact ⟨by omega,by omega⟩
      · skip
        refine Le.mkJ [] [] rfl ?_ ?_ trivial trivial ?_
        · exact ⟨(iP rfl),(iP rfl),(aF (by first | rfl | omega | (rw [hs]) | (simp;done) | (simp;omega) | assumption)),trivial⟩
        · exact ⟨(bn rfl rfl rfl),(bn rfl rfl rfl),(mq rfl rfl rfl rfl (ai (fy (by first | rfl | omega | (rw [hs]) | (simp;done) | (simp;omega) | assumption) (by first | rfl | omega | (rw [hs]) | (simp;done) | (simp;omega) | assumption)) (ai (fy (by first | rfl | omega | (rw [hs]) | (simp;done) | (simp;omega) | assumption) (by first | rfl | omega | (rw [hs]) | (simp;done) | (simp;omega) | assumption)) am))),trivial⟩
        kernel_rfl
      omega
    have hx: ¬ x.k=1:=by simpa using hc35
    rw [if_neg hx] at hs
    refine bw (hK11 _ ?_)
    clear hK11;try clear K11
    refine an ?_
    refine aj (au _ bc) ?_
    first
      | refine aj (bA _ _ rfl rfl (dH ab)) ?_
      | refine aj (bA _ _ rfl rfl rfl) ?_
    refine aj (aM _ bc) ?_
    refine ap ?_
    refine ⟨k+1,?_,?_,?_⟩
    · first | omega | trivial | exact ⟨by omega,by omega⟩
    · skip
      refine Le.mkJ [] [] rfl ?_ ?_ trivial trivial ?_
      · exact ⟨(iP rfl),(iP rfl),(aF (by first | rfl | omega | (rw [hs]) | (simp;done) | (simp;omega) | assumption)),trivial⟩
      · exact ⟨(bn rfl rfl rfl),(bn rfl rfl rfl),(mq rfl rfl rfl rfl (ai (fy (by first | rfl | omega | (rw [hs]) | (simp;done) | (simp;omega) | assumption) (by first | rfl | omega | (rw [hs]) | (simp;done) | (simp;omega) | assumption)) (ai (fy (by first | rfl | omega | (rw [hs]) | (simp;done) | (simp;omega) | assumption) (by first | rfl | omega | (rw [hs]) | (simp;done) | (simp;omega) | assumption)) am))),trivial⟩
      kernel_rfl
    omega
  have e:A.take k=A:=List.take_of_length_le ab
  rw [e]
  refine eP ?_
  refine id (hK7 _ ?_)
  clear hK7;try clear K7
  refine ay fun K13 hK13=> ?_
  refine bP (σ':=bC 64 [(7,_),(8,_)] [((20,0),_),((7,0),_),((8,0),_)] [] []) (by
    refine Le.mkJ [] [] rfl ?_ ?_ trivial trivial ?_
    · exact ⟨(iP rfl),(iP rfl),trivial⟩
    · exact ⟨(bn rfl rfl rfl),(bn rfl rfl rfl),(bn rfl rfl rfl),trivial⟩
    kernel_rfl) ?_
  refine de 14 [50,51,52,53,54,55,56,57,58,59,60,61,62,63] [] ae ae rfl (aQ rfl) (rfl:_=[_,_,_,_,_,_,_,_,_,_,_,_,_,_]) (rfl:_=[_]) ?_
  first
    | refine az (_,[]) (fun τ=> aA _ aa rfl rfl rfl) ?_
    | refine az (_,[]) (fun τ=> aC _ aa rfl rfl) ?_
  refine aE (rfl:_=[_]) ?_
  first
    | refine az (_,[]) (fun τ=> aK _ aa rfl rfl et) ?_
    | refine az (_,[]) (fun τ=> aN _ aa rfl rfl (by first | rfl | exact ax _ _ ab | exact aG _ _ ab | assumption | exact ax _ _ ab | exact dz _ _ ab | exact dA _ _ ab) rfl) ?_
  refine aE (rfl:_=[_,_]) ?_
  refine az (_,[]) (fun τ=> cL _ aa rfl) ?_
  refine aE (rfl:_=[_,_,_]) ?_
  refine az (_,[]) (fun τ=> ca (r:=true) _ _ rfl rfl (beq_iff_eq.2 ab)) ?_
  refine aE (rfl:_=[_,_,_,_]) ?_
  refine az (_,[]) (fun τ=> au _ dh) ?_
  refine aE (rfl:_=[_,_,_,_,_]) ?_
  first
    | refine dP (_,[]) rfl (fun τ=> rfl) (fun τ=> bl _ aa rfl rfl rfl rfl) ?_
    | refine dP (_,[]) rfl (fun τ=> rfl) (fun τ=> bm _ aa rfl rfl (by first | rfl | assumption) rfl) ?_
    | refine dP (_,[]) rfl (fun τ=> rfl) (fun τ=> bg _ aa rfl (by first | rfl | assumption) rfl) ?_
  refine aE (rfl:_=[_,_,_,_,_,_]) ?_
  refine dP (_,[]) rfl (fun τ=> rfl) (fun τ=> (ba aa (by repeat' (first | exact aJ | refine aI ?_ ?_ | exact Lv.v | exact aF ab | exact Lv.sl | exact Lv.fp | exact Lv.nil | refine Lv.agg rfl ?_ | refine Lv.fn rfl ?_ rfl ?_ | exact am | refine ai ?_ ?_ | exact Lv.z0)) (hvw) rfl rfl)) ?_
  refine aE (rfl:_=[_,_,_,_,_,_,_]) ?_
  first
    | refine dP (_,[]) rfl (fun τ=> rfl) (fun τ=> aA _ aa rfl rfl rfl) ?_
    | refine dP (_,[]) rfl (fun τ=> rfl) (fun τ=> aC _ aa rfl rfl) ?_
  refine aE (rfl:_=[_,_,_,_,_,_,_,_]) ?_
  first
    | refine dP (_,[]) rfl (fun τ=> rfl) (fun τ=> aK _ aa rfl rfl et) ?_
    | refine dP (_,[]) rfl (fun τ=> rfl) (fun τ=> aN _ aa rfl rfl (by first | rfl | exact ax _ _ ab | exact aG _ _ ab | assumption | exact ax _ _ ab | exact dz _ _ ab | exact dA _ _ ab) rfl) ?_
  refine aE (rfl:_=[_,_,_,_,_,_,_,_,_]) ?_
  refine dP (_,[]) rfl (fun τ=> rfl) (fun τ=> (ba aa (by repeat' (first | exact aJ | refine aI ?_ ?_ | exact Lv.v | exact aF ab | exact Lv.sl | exact Lv.fp | exact Lv.nil | refine Lv.agg rfl ?_ | refine Lv.fn rfl ?_ rfl ?_ | exact am | refine ai ?_ ?_ | exact Lv.z0)) (hsm) rfl rfl)) ?_
  refine aE (rfl:_=[_,_,_,_,_,_,_,_,_,_]) ?_
  refine az (_,[]) (fun τ=> bB _ _ _ rfl dh) ?_
  refine aE (rfl:_=[_,_,_,_,_,_,_,_,_,_,_]) ?_
  refine az (_,[]) (fun τ=> au _ dh) ?_
  refine aE (rfl:_=[_,_,_,_,_,_,_,_,_,_,_,_]) ?_
  refine dP (_,[]) rfl (fun τ=> rfl) (fun τ=> (ba aa (by repeat' (first | exact aJ | refine aI ?_ ?_ | exact Lv.v | exact aF ab | exact Lv.sl | exact Lv.fp | exact Lv.nil | refine Lv.agg rfl ?_ | refine Lv.fn rfl ?_ rfl ?_ | exact am | refine ai ?_ ?_ | exact Lv.z0)) (hlv) rfl rfl)) ?_
  refine aE (rfl:_=[_,_,_,_,_,_,_,_,_,_,_,_,_]) ?_
  refine az (_,[]) (fun τ=> bB _ _ _ rfl dh) ?_
  refine aE (rfl:_=[_,_,_,_,_,_,_,_,_,_,_,_,_,_]) ?_
  refine cf ⟨rfl,?_⟩
  refine aj (aM _ dh) ?_
  refine ap (hK13 _ ?_)
  clear hK13;try clear K13
  refine br ?_
  exact km rfl rfl
theorem gc (it to:Int) (h1: -9223372036854775808≤it∧it≤9223372036854775807) (h2: -9223372036854775808≤to∧to≤9223372036854775807):
    Spec Try.prog 4 (bq [.v (.int .i64 it), .v (.int .i64 to)] []) (aX (.v (.bool true)) []):=iI it to h1 h2
end Go.Proofs.Ytmjnackchaahbaa
