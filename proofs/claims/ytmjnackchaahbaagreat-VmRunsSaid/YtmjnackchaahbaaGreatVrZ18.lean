/- Part 18 of the texts that the walk leans on: the machine, the walks, the plain laws. -/
import Derived.Shelf.SlIterI.Nil
import Derived.Shelf.SortM.Plain
import Derived.Shelf.SortM.SortNone
import Derived.Ground.GgzProg
import Derived.Ground.SlgmProg
import Derived.Test.YtmjnackchaahbaaGreatVrZ17
set_option linter.unusedSimpArgs false
set_option linter.unusedVariables false
namespace Go.Proofs.YtmjnackchaahbaaGreat
open Go.RowKit Go.Maps Go.Sort Go.Shelf

def mV:Go.Shelf.Ren:=⟨fun | 7=> 95 | 10=> 158 | n=> n,fun | 23=> 175 | 26=> 3 | 3=> 176 | 28=> 179 | 0=> 0 | 27=> 178 | 33=> 216 | 4=> 4 | n=> n,fun | n=> n⟩
theorem Ae:Go.Proofs.SlLaysZI.n7 Tryz.prog mV:=
  { mixed:=by kernel_rfl,
    f7:=⟨Tryz.f95.name,by decide,Tryz.func95.trans (congrArg some ae)⟩,
    f10:=⟨Tryz.f158.name,by decide,Tryz.func158.trans (congrArg some ae)⟩,
    t0:=Tryz.underlying0,
    a0:=Tryz.isAgg0,
    z0:=Tryz.sizeOf0,
    v0:=Tryz.zeroValue0,
    t4:=Tryz.underlying4,
    a4:=Tryz.isAgg4,
    z4:=Tryz.sizeOf4,
    v4:=Tryz.zeroValue4,
    t23:=Tryz.underlying175,
    a23:=Tryz.isAgg175,
    z23:=Tryz.sizeOf175,
    v23:=Tryz.zeroValue175,
    t26:=Tryz.underlying3,
    a26:=Tryz.isAgg3,
    z26:=Tryz.sizeOf3,
    v26:=Tryz.zeroValue3,
    t27:=Tryz.underlying178,
    a27:=Tryz.isAgg178,
    z27:=Tryz.sizeOf178,
    v27:=Tryz.zeroValue178,
    t28:=Tryz.underlying179,
    a28:=Tryz.isAgg179,
    z28:=Tryz.sizeOf179,
    v28:=Tryz.zeroValue179,
    t33:=Tryz.underlying216,
    a33:=Tryz.isAgg216,
    z33:=Tryz.sizeOf216,
    v33:=Tryz.zeroValue216 }
def kZ:Go.Shelf.Ren:=⟨fun | 6=> 94 | 8=> 156 | 9=> 157 | 11=> 191 | 13=> 193 | 12=> 192 | 23=> 219 | 24=> 220 | 14=> 211 | 15=> 212 | 16=> 213 | 17=> 214 | 18=> 215 | 19=> 216 | 20=> 207 | 21=> 217 | 22=> 218 | 25=> 230 | 26=> 231 | 27=> 232 | 28=> 233 | 29=> 234 | 30=> 228 | 31=> 239 | n=> n,fun | 26=> 3 | 28=> 179 | 24=> 22 | 0=> 0 | 3=> 3 | 37=> 243 | 48=> 260 | 50=> 262 | 4=> 4 | 40=> 254 | 39=> 253 | 45=> 193 | 5=> 5 | 9=> 9 | 51=> 265 | 55=> 269 | 57=> 272 | 58=> 273 | 33=> 216 | n=> n,fun | n=> n⟩
theorem vB:Go.Proofs.SlLaysZI.n6 Tryz.prog kZ:=
  { mixed:=by kernel_rfl,
    f6:=⟨Tryz.f94.name,by decide,Tryz.func94.trans (congrArg some ae)⟩,
    f8:=⟨Tryz.f156.name,by decide,Tryz.func156.trans (congrArg some ae)⟩,
    f11:=⟨Tryz.f191.name,by decide,Tryz.func191.trans (congrArg some ae)⟩,
    t0:=Tryz.underlying0,
    a0:=Tryz.isAgg0,
    z0:=Tryz.sizeOf0,
    v0:=Tryz.zeroValue0,
    t24:=Tryz.underlying22,
    a24:=Tryz.isAgg22,
    z24:=Tryz.sizeOf22,
    v24:=Tryz.zeroValue22,
    t26:=Tryz.underlying3,
    a26:=Tryz.isAgg3,
    z26:=Tryz.sizeOf3,
    v26:=Tryz.zeroValue3,
    t28:=Tryz.underlying179,
    a28:=Tryz.isAgg179,
    z28:=Tryz.sizeOf179,
    v28:=Tryz.zeroValue179,
    i26:=by kernel_rfl }
def rB:Go.Shelf.Ren:=⟨fun | 5=> 157 | 8=> 193 | 7=> 192 | 19=> 219 | 20=> 220 | 10=> 211 | 11=> 212 | 12=> 213 | 13=> 214 | 14=> 215 | 15=> 216 | 16=> 207 | 17=> 217 | 18=> 218 | 30=> 230 | 31=> 231 | 32=> 232 | 33=> 233 | 34=> 234 | 35=> 228 | 40=> 239 | n=> n,fun | 23=> 22 | 25=> 3 | 3=> 3 | 32=> 243 | 22=> 22 | 0=> 0 | 44=> 260 | 46=> 262 | 4=> 4 | 36=> 254 | 35=> 253 | 41=> 193 | 5=> 5 | 9=> 9 | 53=> 265 | 57=> 269 | 63=> 272 | 64=> 273 | n=> n,fun | n=> n⟩
theorem tZ:Go.Proofs.SlLaysM.n5 Tryz.prog rB:=
  { mixed:=by kernel_rfl,
    f5:=⟨Tryz.f157.name,by decide,Tryz.func157.trans (congrArg some ae)⟩,
    f7:=⟨Tryz.f192.name,by decide,Tryz.func192.trans (congrArg some ae)⟩,
    f8:=Tryz.func193.trans (congrArg some ae),
    f10:=⟨Tryz.f211.name,by decide,Tryz.func211.trans (congrArg some ae)⟩,
    f11:=⟨Tryz.f212.name,by decide,Tryz.func212.trans (congrArg some ae)⟩,
    f12:=⟨Tryz.f213.name,by decide,Tryz.func213.trans (congrArg some ae)⟩,
    f13:=⟨Tryz.f214.name,by decide,Tryz.func214.trans (congrArg some ae)⟩,
    f14:=⟨Tryz.f215.name,by decide,Tryz.func215.trans (congrArg some ae)⟩,
    f15:=⟨Tryz.f216.name,by decide,Tryz.func216.trans (congrArg some ae)⟩,
    f16:=⟨Tryz.f207.name,by decide,Tryz.func207.trans (congrArg some ae)⟩,
    f17:=⟨Tryz.f217.name,by decide,Tryz.func217.trans (congrArg some ae)⟩,
    f18:=⟨Tryz.f218.name,by decide,Tryz.func218.trans (congrArg some ae)⟩,
    f19:=Tryz.func219.trans (congrArg some ae),
    f20:=Tryz.func220.trans (congrArg some ae),
    f30:=⟨Tryz.f230.name,by decide,Tryz.func230.trans (congrArg some ae)⟩,
    f31:=Tryz.func231.trans (congrArg some ae),
    f32:=Tryz.func232.trans (congrArg some ae),
    f33:=⟨Tryz.f233.name,by decide,Tryz.func233.trans (congrArg some ae)⟩,
    f34:=⟨Tryz.f234.name,by decide,Tryz.func234.trans (congrArg some ae)⟩,
    f35:=⟨Tryz.f228.name,by decide,Tryz.func228.trans (congrArg some ae)⟩,
    f40:=⟨Tryz.f239.name,by decide,Tryz.func239.trans (congrArg some ae)⟩,
    t0:=Tryz.underlying0,
    a0:=Tryz.isAgg0,
    z0:=Tryz.sizeOf0,
    v0:=Tryz.zeroValue0,
    t3:=Tryz.underlying3,
    a3:=Tryz.isAgg3,
    z3:=Tryz.sizeOf3,
    v3:=Tryz.zeroValue3,
    t4:=Tryz.underlying4,
    a4:=Tryz.isAgg4,
    z4:=Tryz.sizeOf4,
    v4:=Tryz.zeroValue4,
    t5:=Tryz.underlying5,
    a5:=Tryz.isAgg5,
    z5:=Tryz.sizeOf5,
    v5:=Tryz.zeroValue5,
    t9:=Tryz.underlying9,
    a9:=Tryz.isAgg9,
    z9:=Tryz.sizeOf9,
    v9:=Tryz.zeroValue9,
    t22:=Tryz.underlying22,
    a22:=Tryz.isAgg22,
    z22:=Tryz.sizeOf22,
    v22:=Tryz.zeroValue22,
    t23:=Tryz.underlying22,
    a23:=Tryz.isAgg22,
    z23:=Tryz.sizeOf22,
    v23:=Tryz.zeroValue22,
    t25:=Tryz.underlying3,
    a25:=Tryz.isAgg3,
    z25:=Tryz.sizeOf3,
    v25:=Tryz.zeroValue3,
    t32:=Tryz.underlying243,
    a32:=Tryz.isAgg243,
    z32:=Tryz.sizeOf243,
    v32:=Tryz.zeroValue243,
    t35:=Tryz.underlying253,
    a35:=Tryz.isAgg253,
    z35:=Tryz.sizeOf253,
    v35:=Tryz.zeroValue253,
    t36:=Tryz.underlying254,
    a36:=Tryz.isAgg254,
    z36:=Tryz.sizeOf254,
    v36:=Tryz.zeroValue254,
    t41:=Tryz.underlying193,
    a41:=Tryz.isAgg193,
    z41:=Tryz.sizeOf193,
    v41:=Tryz.zeroValue193,
    t44:=Tryz.underlying260,
    a44:=Tryz.isAgg260,
    z44:=Tryz.sizeOf260,
    v44:=Tryz.zeroValue260,
    t46:=Tryz.underlying262,
    a46:=Tryz.isAgg262,
    z46:=Tryz.sizeOf262,
    v46:=Tryz.zeroValue262,
    t53:=Tryz.underlying265,
    a53:=Tryz.isAgg265,
    z53:=Tryz.sizeOf265,
    v53:=Tryz.zeroValue265,
    t57:=Tryz.underlying269,
    a57:=Tryz.isAgg269,
    z57:=Tryz.sizeOf269,
    v57:=Tryz.zeroValue269,
    t63:=Tryz.underlying272,
    a63:=Tryz.isAgg272,
    z63:=Tryz.sizeOf272,
    v63:=Tryz.zeroValue272,
    t64:=Tryz.underlying273,
    a64:=Tryz.isAgg273,
    z64:=Tryz.sizeOf273,
    v64:=Tryz.zeroValue273 }
theorem Da (m:Nat):AnyZI.SortsIn Tryz.prog kZ Fence.wide m:=
  ⟨fun blk off cap ss W hH hblk hsz=> callsIn_wide.2 (AnyM.slices_Sort_int tZ blk off cap ss W hH hblk hsz),
   fun p cap W=> callsIn_wide.2 (AnyM.slices_Sort_int_none tZ p cap W)⟩
abbrev DR:Value→Option (DataW Unit×List MemPlace):=fun _=> some (.nil,[])
theorem xI (M:List (Int×Value)):(em M).map (fun x=> x.key)=M.map fun p=> Value.int .i64 p.1:=by
  apply List.ext_getElem?
  intro j
  rw [List.getElem?_map,iU,List.getElem?_map]
  cases M[j]? <;> rfl
theorem pY (M:List (Int×Value)):(em M).map (fun x=> x.born)=List.range M.length:=by
  apply List.ext_getElem?
  intro j
  rw [List.getElem?_map,iU]
  by_cases h:j < M.length
  · rw [List.getElem?_eq_getElem h,List.getElem?_range h];rfl
  · rw [List.getElem?_eq_none ab,List.getElem?_eq_none (by simp;omega)];rfl
theorem xt {M:List (Int×Value)} {x:MapEntry} (h:x∈em M): ∃ p∈M,x.key= .int .i64 p.1:=by
  obtain ⟨j,hj⟩:=List.getElem?_of_mem h
  rw [iU] at hj
  obtain ⟨p,hp,rfl⟩:=Option.map_eq_some_iff.1 hj
  exact ⟨p,List.mem_of_getElem? hp,rfl⟩
theorem CB {a:Int} (h:0≤a∧a≤1000000):(Lit.int .i64 a).wf=true:=by
  have h1:IntKind.i64.min= -9223372036854775808:=by decide
  have h2:IntKind.i64.max=9223372036854775807:=by decide
  simp only [Lit.wf,h1,h2,Bool.and_eq_true,decide_eq_true_eq]
  omega
theorem zt {P:Program} {a:Int} (hk:P.underlying 3=some (.int .i64)) (h:0≤a∧a≤1000000):keyOf P 3 (.int .i64 a)=some (.int .i64 a):=keyOf_int_mk hk (CB h)
theorem Fs:BT:=by
  intro M g b w hlen hnd hrg hlt hcell hb
  have hk3:Tryz.prog.underlying 3=some (.int .i64):=Tryz.underlying3
  have hlen2:(em M).length=M.length:=xS M
  have hrd: ∀ x∈em M,∃ p∈M,Go.WideElems.rd Tryz.prog 3 DR x=some (.int .i64 p.1, .nil)∧x.key= .int .i64 p.1:=by
    intro x hx
    obtain ⟨p,hp,hkx⟩:=xt hx
    refine ⟨p,hp,?_,hkx⟩
    have:=Go.WideElems.rd_mk (P:=Tryz.prog) (k:=3) (R:=DR) (val:=x.val) (born:=x.born) (zt hk3 (hrg p hp)) (yv:=(.nil,[])) rfl
    rw [← hkx] at this
    exact this
  obtain ⟨E,hE⟩: ∃ E,E=((em M).map (Go.WideElems.rg Tryz.prog 3 DR)).foldr DataW.insert []:=⟨_,rfl⟩
  have hperm:E.Perm ((em M).map (Go.WideElems.rg Tryz.prog 3 DR)):=by rw [hE];exact Go.WideShapes.sorted_perm _
  have hkeys:((em M).map (Go.WideElems.rg Tryz.prog 3 DR)).map (fun p=> Go.intOf p.1)=M.map (·.1):=by
    apply List.ext_getElem?
    intro j
    rw [List.getElem?_map,List.getElem?_map,List.getElem?_map]
    cases hj:(em M)[j]? with
    | none=>
      rw [iU] at hj
      have:=Option.map_eq_none_iff.1 hj
      rw [this];rfl
    | some x=>
      obtain ⟨q,_,h1,h2⟩:=hrd x (List.mem_of_getElem? hj)
      rw [iU] at hj
      obtain ⟨p,hp,rfl⟩:=Option.map_eq_some_iff.1 hj
      rw [hp]
      simp only [Option.map_some,Go.WideElems.rg_of h1,Go.intOf]
      have h2:Value.int .i64 p.1=Value.int .i64 q.1:=h2
      have h3:p.1=q.1:=by injection h2
      rw [h3]
  have hown:w.ownsMap Tryz.prog 3 DR b M.length (.map E):=by
    refine ⟨(em M).toArray,M.length,hb,⟨by simp only [List.size_toArray];rw [hlen2];unfold maxLen;omega,⟨?_,?_,?_⟩,fun x hx=> ?_⟩,by simp only [List.size_toArray];omega,by rw [hE]⟩
    · intro x hx
      have h1:x.born∈(em M).map (fun x=> x.born):=List.mem_map_of_mem (by simpa using hx)
      rw [pY] at h1
      simpa using h1
    · show ((em M).map (fun x=> x.born)).Nodup
      rw [pY];exact List.nodup_range
    · show ((em M).map (fun x=> x.key)).Nodup
      rw [xI]
      have:(M.map fun p=> Value.int .i64 p.1)=(M.map (·.1)).map (fun n=> Value.int .i64 n):=by rw [List.map_map];rfl
      rw [this]
      exact hnd.map (fun n=> Value.int .i64 n) fun a b h e=> h (by cases e;rfl)
    · obtain ⟨p,_,h1,_⟩:=hrd x (by simpa using hx)
      exact ⟨_,h1⟩
  have hsz:Maps.size (.map E:DataW Unit)=M.length:=by
    show E.length=_
    rw [hperm.length_eq,List.length_map,hlen2]
  have hseq:SeqGives Fence.wide 2 Tryz.prog 158 #[.pointer (some ⟨g,0,none⟩)] encZ (fun ss=> ss.Perm (intKeys (.map E:DataW Unit))) (Maps.size (.map E:DataW Unit)) w:=
    AnyZI.keys_gives (ρ:=mV) { Ae with } Fence.wide 2 trivial rfl ab g b M.length (.map E) w hlt hcell hown
  have cS:=AnyZI.sorted_in vB Fence.wide 5 trivial trivial trivial trivial rfl ab (Da _) (enters_of Tryz.func157 ae rfl) 158 #[.pointer (some ⟨g,0,none⟩)] trivial (enters_of Tryz.func158 ae rfl) _ _ (by rw [hsz];unfold maxLen;omega) (by rw [hsz];omega) _ hseq
  change CallsIn _ _ Tryz.prog 94 _ _ _ at cS
  refine ((callsIn_wide (n:=5)).1 cS).mono ?_
  rintro e w' ⟨v,ss,rfl,hS,hrow,_,hbl⟩
  refine ⟨v,ss,rfl,?_,hrow,hbl⟩
  have h1:ss.Perm (E.map fun p=> Go.intOf p.1):=hS
  have h2:=hperm.map (fun p=> Go.intOf p.1)
  rw [hkeys] at h2
  exact h1.trans h2
theorem Fi:wL:=wR Fs

theorem js (x:Int):Spec Tryz.prog 65 (bj [.v (.int .i64 x)] []) (aT (.v (.int .i64 (jS x))) []):=by
 refine Spec.ofN Tryz.func65 rfl Tryz.ntmps65 rfl ?_
 exact am (ba rfl (aj (am (aP rfl (ai (nS _ _ rfl rfl rfl) (ai (tN _ _ rfl rfl rfl) (ba rfl (aj (aE (aX (.inr rfl) rfl (.tmp (rfl:_=AV.v _)) (Le.out [] [] .v rfl rfl rfl trivial trivial)))))))))))
theorem jJ (b:Bool):Spec Tryz.prog 62 (bj [.v (.bool b)] []) (aT (.v (.int .i64 (flag b))) []):=by
 cases b
 ·skip
  refine Spec.ofN Tryz.func62 rfl Tryz.ntmps62 rfl ?_
  refine am (ba rfl (aj (aq (am (cM rfl (aj (aS rfl rfl (aL (am (ba rfl ?_))))))))))
  exact aj (aE (aX (.inr rfl) rfl (.tmp (rfl:_=AV.v _)) (Le.out [] [] .v rfl rfl rfl trivial trivial)))
 ·skip
  refine Spec.ofN Tryz.func62 rfl Tryz.ntmps62 rfl ?_
  refine am (ba rfl (aj (aq (am (cM rfl (aj (bC rfl rfl (am (ba rfl (aj ?_))))))))))
  exact aE (aX (.inr rfl) rfl (.tmp (rfl:_=AV.v _)) (Le.out [] [] .v rfl rfl rfl trivial trivial))
theorem CK {y x:Int} (hy:Rg y) (hx:Rg x):Spec Tryz.prog 31 (bj [.v (.int .i64 6), .v (.int .i64 y), .v (.int .i64 x)] []) (aT (.v (.int .i64 (eD .add y x))) []):=by
 refine Spec.ofN Tryz.func31 rfl Tryz.ntmps31 rfl ?_
 refine am (ba rfl (aj (aq (am (aP rfl (aj (au (eJ rfl rfl rfl rfl rfl (am (aP rfl ?_))))))))))
 refine aP rfl (ai (bc (r:=y+x) _ _ rfl rfl (be (by unfold Rg at hy hx;omega))) ?_)
 refine ai (aF aa al (js (y+x)) rfl rfl) ?_
 exact ba rfl (aj (aE (aX (.inr rfl) rfl (.tmp (rfl:_=AV.v _)) (Le.out [] [] .v rfl rfl rfl trivial trivial))))
theorem CW {y x:Int} (hy:Rg y) (hx:Rg x):Spec Tryz.prog 31 (bj [.v (.int .i64 7), .v (.int .i64 y), .v (.int .i64 x)] []) (aT (.v (.int .i64 (eD .sub y x))) []):=by
 refine Spec.ofN Tryz.func31 rfl Tryz.ntmps31 rfl ?_
 refine am (ba rfl (aj (aq (am (aP rfl (aj (au (bS rfl rfl rfl rfl rfl (eJ rfl rfl rfl rfl rfl (am ?_))))))))))
 refine aP rfl (aP rfl (ai (bk (r:=y - x) _ _ rfl rfl (be (by unfold Rg at hy hx;omega))) ?_))
 refine ai (aF aa al (js (y - x)) rfl rfl) ?_
 exact ba rfl (aj (aE (aX (.inr rfl) rfl (.tmp (rfl:_=AV.v _)) (Le.out [] [] .v rfl rfl rfl trivial trivial))))
theorem Dj {y x:Int} (hy:Rg y) (hx:Rg x):Spec Tryz.prog 31 (bj [.v (.int .i64 8), .v (.int .i64 y), .v (.int .i64 x)] []) (aT (.v (.int .i64 (eD .mul y x))) []):=by
 refine Spec.ofN Tryz.func31 rfl Tryz.ntmps31 rfl ?_
 refine am (ba rfl (aj (aq (am (aP rfl (aj (au ?_)))))))
 iterate 2 refine bS rfl rfl rfl rfl rfl ?_
 refine eJ rfl rfl rfl rfl rfl (am (aP rfl (aP rfl (ai (tK (r:=y*x) _ _ rfl rfl (be (wM hy hx))) ?_))))
 refine ai (aF aa al (js (y*x)) rfl rfl) ?_
 exact ba rfl (aj (aE (aX (.inr rfl) rfl (.tmp (rfl:_=AV.v _)) (Le.out [] [] .v rfl rfl rfl trivial trivial))))
theorem zy {y x:Int} (hy:Rg y) (hx:Rg x) (h0:x=0):Spec Tryz.prog 31 (bj [.v (.int .i64 9), .v (.int .i64 y), .v (.int .i64 x)] []) (aT (.v (.int .i64 (0))) []):=by
 refine Spec.ofN Tryz.func31 rfl Tryz.ntmps31 rfl ?_
 refine am (ba rfl (aj (aq (am (aP rfl (aj (au ?_)))))))
 iterate 3 refine bS rfl rfl rfl rfl rfl ?_
 refine eJ rfl rfl rfl rfl rfl (aq (am (aP rfl (ai (br _ _ rfl rfl rfl) (aj (bC rfl (decide_eq_true h0) ?_))))))
 exact am (ba rfl (aj (aE (aX (.inr rfl) rfl (.tmp (rfl:_=AV.v _)) (Le.out [] [] .v rfl rfl rfl trivial trivial)))))
theorem Bi {y x:Int} (hy:Rg y) (hx:Rg x) (h0:x≠0):Spec Tryz.prog 31 (bj [.v (.int .i64 9), .v (.int .i64 y), .v (.int .i64 x)] []) (aT (.v (.int .i64 (jS (y.tdiv x)))) []):=by
 refine Spec.ofN Tryz.func31 rfl Tryz.ntmps31 rfl ?_
 refine am (ba rfl (aj (aq (am (aP rfl (aj (au ?_)))))))
 iterate 3 refine bS rfl rfl rfl rfl rfl ?_
 refine eJ rfl rfl rfl rfl rfl (aq (am (aP rfl (ai (br _ _ rfl rfl rfl) (aj (aS rfl (decide_eq_false h0) ?_))))))
 refine aL (am (aP rfl (aP rfl (ai (yj (r:=y.tdiv x) _ _ rfl rfl h0 (be (by have:=uv (y:=x) hy;omega))) ?_))))
 refine ai (aF aa al (js (y.tdiv x)) rfl rfl) ?_
 exact ba rfl (aj (aE (aX (.inr rfl) rfl (.tmp (rfl:_=AV.v _)) (Le.out [] [] .v rfl rfl rfl trivial trivial))))
theorem Eu {y x:Int} (hy:Rg y) (hx:Rg x):Spec Tryz.prog 31 (bj [.v (.int .i64 11), .v (.int .i64 y), .v (.int .i64 x)] []) (aT (.v (.int .i64 (eD .lt y x))) []):=by
 refine Spec.ofN Tryz.func31 rfl Tryz.ntmps31 rfl ?_
 refine am (ba rfl (aj (aq (am (aP rfl (aj (au ?_)))))))
 iterate 4 refine bS rfl rfl rfl rfl rfl ?_
 refine eJ rfl rfl rfl rfl rfl (am (aP rfl (aP rfl (ai (bp _ _ rfl rfl rfl) (ai (aF aa al (jJ (decide (y < x))) rfl rfl) ?_)))))
 exact ba rfl (aj (aE (aX (.inr rfl) rfl (.tmp (rfl:_=AV.v _)) (Le.out [] [] .v rfl rfl rfl trivial trivial))))
theorem Fx {y x:Int} (hy:Rg y) (hx:Rg x):Spec Tryz.prog 31 (bj [.v (.int .i64 12), .v (.int .i64 y), .v (.int .i64 x)] []) (aT (.v (.int .i64 (eD .le y x))) []):=by
 refine Spec.ofN Tryz.func31 rfl Tryz.ntmps31 rfl ?_
 refine am (ba rfl (aj (aq (am (aP rfl (aj (au ?_)))))))
 iterate 5 refine bS rfl rfl rfl rfl rfl ?_
 refine eJ rfl rfl rfl rfl rfl (am (aP rfl (aP rfl (ai (bP _ _ rfl rfl rfl) (ai (aF aa al (jJ (decide (y≤x))) rfl rfl) ?_)))))
 exact ba rfl (aj (aE (aX (.inr rfl) rfl (.tmp (rfl:_=AV.v _)) (Le.out [] [] .v rfl rfl rfl trivial trivial))))
theorem Ff {y x:Int} (hy:Rg y) (hx:Rg x):Spec Tryz.prog 31 (bj [.v (.int .i64 13), .v (.int .i64 y), .v (.int .i64 x)] []) (aT (.v (.int .i64 (eD .eq y x))) []):=by
 refine Spec.ofN Tryz.func31 rfl Tryz.ntmps31 rfl ?_
 refine am (ba rfl (aj (aq (am (aP rfl (aj (au ?_)))))))
 iterate 6 refine bS rfl rfl rfl rfl rfl ?_
 refine cf (am (aP rfl (aP rfl (ai (br _ _ rfl rfl rfl) (ai (aF aa al (jJ (decide (y=x))) rfl rfl) ?_)))))
 exact ba rfl (aj (aE (aX (.inr rfl) rfl (.tmp (rfl:_=AV.v _)) (Le.out [] [] .v rfl rfl rfl trivial trivial))))
theorem fT {o:Opc} {y x:Int} (hy:Rg y) (hx:Rg x) (ho:o= .add∨o= .sub∨o= .mul∨o= .div∨o= .lt∨o= .le∨o= .eq):Spec Tryz.prog 31 (bj [.v (.int .i64 (o.num:Int)), .v (.int .i64 y), .v (.int .i64 x)] []) (aT (.v (.int .i64 (eD o y x))) []):=by
 rcases ho with rfl | rfl | rfl | rfl | rfl | rfl | rfl
 ·exact CK hy hx
 ·exact CW hy hx
 ·exact Dj hy hx
 ·by_cases h0:x=0
  ·rw [show eD .div y x=0 from if_pos h0];exact zy hy hx h0
  ·rw [show eD .div y x=jS (y.tdiv x) from if_neg h0];exact Bi hy hx h0
 ·exact Eu hy hx
 ·exact Fx hy hx
 ·exact Ff hy hx
theorem uI (l:List Int) (i:Nat) (k:Int) (hk:1≤k∧k≤1000) (hi:i < l.length) (hn:l.length≤4611686018427387904):Spec Tryz.prog 32 (bj [.sl l.length (cu l), .v (.int .i64 (i:Int)), .v (.int .i64 k)] []) (aT (.v (.int .i64 (il l i k))) []):=by
 have htm:=BS (l.getD i 0) k hk.1
 refine Spec.ofN Tryz.func32 rfl Tryz.ntmps32 rfl ?_
 refine am (ba rfl (aj (aq (am (aP rfl (ai (bp (r:=false) _ _ rfl rfl (decide_eq_false ab)) ?_))))))
 refine cM rfl (ay rfl rfl (aC _ (rfl:_=AV.v (.int _ _))) (ay rfl rfl (aC _ (rfl:_=AV.sl _ _)) (ay rfl rfl (bI _ aa rfl) (ay rfl rfl (eH (r:=false) _ _ rfl rfl (decide_eq_false ab)) ?_))))
 refine ai (aG _ _ _ rfl (rfl:_=AV.v (.bool _))) (aj (aS rfl rfl (aL (am (ef rfl (aP rfl (ai (bi _ _ aa rfl rfl _ rfl ab (by (simp only [aZ,bq,bo,aZ,dm,bN];omega)) (by exact Nat.mul_one _)) ?_)))))))
 refine ai (bH _ aa rfl (by exact dl _ _ ab) rfl) ?_
 refine aP rfl (ai (cZ _ _ rfl rfl ab rfl) ?_)
 refine aP rfl (ai (bc (r:=(l.getD i 0).tmod k+k) _ _ rfl rfl (be ab)) ?_)
 refine aP rfl (ai (cZ (r:=il l i k) _ _ rfl rfl ab htm.2.2) ?_)
 exact ba rfl (aj (aE (aX (.inr rfl) rfl (.tmp (rfl:_=AV.v _)) (Le.out [] [] .v rfl rfl rfl trivial trivial))))
theorem sY (l:List Int) (i:Nat) (k:Int) (hi:l.length≤i) (hn:i≤4611686018427387904):Spec Tryz.prog 32 (bj [.sl l.length (cu l), .v (.int .i64 (i:Int)), .v (.int .i64 k)] []) (aT (.v (.int .i64 (il l i k))) []):=by
 rw [show il l i k=0 by unfold il;rw [List.getD_eq_getElem?_getD,List.getElem?_eq_none hi];simp]
 refine Spec.ofN Tryz.func32 rfl Tryz.ntmps32 rfl ?_
 refine am (ba rfl (aj (aq (am (aP rfl (ai (bp (r:=false) _ _ rfl rfl (decide_eq_false ab)) ?_))))))
 refine cM rfl (ay rfl rfl (aC _ (rfl:_=AV.v (.int _ _))) (ay rfl rfl (aC _ (rfl:_=AV.sl _ _)) (ay rfl rfl (bI _ aa rfl) (ay rfl rfl (eH (r:=true) _ _ rfl rfl (decide_eq_true ab)) ?_))))
 exact ai (aG _ _ _ rfl (rfl:_=AV.v (.bool _))) (aj (bC rfl rfl (am (ba rfl (aj (aE (aX (.inr rfl) rfl (.tmp (rfl:_=AV.v _)) (Le.out [] [] .v rfl rfl rfl trivial trivial))))))))
theorem rN (l:List Int) (i:Nat) (k:Int) (hk:1≤k∧k≤1000) (hi:i≤90000) (hn:l.length≤4611686018427387904):Spec Tryz.prog 32 (bj [.sl l.length (cu l), .v (.int .i64 (i:Int)), .v (.int .i64 k)] []) (aT (.v (.int .i64 (il l i k))) []):=by
 by_cases h:i < l.length
 ·exact uI l i k hk h hn
 ·exact sY l i k ab ab
theorem vS (l:List Ac) (hl:l.length≤1000000):Spec Tryz.prog 63 (bj [.sl l.length (oU l)] []) (aT (.v (.int .i64 (co l:Int))) []):=by
 refine Spec.ofN Tryz.func63 rfl Tryz.ntmps63 rfl ?_
 refine am (ba rfl (aj (am (ba rfl (aj (aH fun K3 hK3=> ?_))))))
 refine am (ba rfl (aj (au ?_)))
 refine bD (α:=Nat) (fun k=> k≤l.length) 20 [(0,_)] [] (fun k=> [(4, .v (.int .i64 (k:Int))),(3, .v (.int .i64 (co (l.take k):Int)))]) (fun k=> []) [] [] (fun k=> l.length - k) 0 ?_ (by
  refine Le.mkJ [] [] rfl ?_ ?_ trivial trivial ?_
  ·exact ⟨(iS rfl),(bY ag),(bY ag),trivial⟩
  ·exact trivial
  ·kernel_rfl) ?_
 ·omega
 intro k hk
 have hle:co (l.take k)≤k:=Nat.le_trans List.countP_le_length (by rw [List.length_take];omega)
 refine aH fun K5 hK5=> ?_
 refine am (aP rfl (ef rfl (ai (bI _ aa rfl) (ai (bp _ _ rfl rfl rfl) (aj (aO rfl (fun hc8=> ?_) (fun hc8=> ?_)))))))
 ·skip
  have hs:l.take (k+1)=l.take k++[vC l k]:=by rw [List.take_succ_eq_append_getElem ab];congr 2;simp [vC,show k < l.length by omega]
  have hsn:=fh (l.take k) (vC l k)
  rw [← hs] at hsn
  refine bB (hK5 _ ?_)
  clear hK5;try clear K5
  refine aq (au (am (ef rfl (aP rfl (ai (bi _ _ aa rfl rfl _ rfl ab (by (simp only [aZ,bq,bo,aZ,dm,bN];omega)) ag) ?_)))))
  refine ai (dn _ aa rfl rfl) (ai (bH _ aa rfl (by exact wA _ _ ab) rfl) ?_)
  refine ai (br _ _ rfl rfl rfl) (aj (aO rfl (fun hc16=> ?_) (fun hc16=> ?_)))
  ·skip
   rw [if_pos hc16] at hsn
   refine an (aP rfl (ai (bc _ _ rfl rfl (be ab)) ?_))
   refine ba rfl (ga (an (aP rfl (ai (bc _ _ rfl rfl (be ab)) ?_))))
   refine ba rfl (ax (⟨k+1,?_,?_,?_⟩))
   ·omega
   ·skip
    refine Le.mkJ [] [] rfl ?_ ?_ trivial trivial ?_
    ·exact ⟨(iS rfl),(bY ag),(bY ab),trivial⟩
    ·exact trivial
    ·kernel_rfl
   ·omega
  ·skip
   rw [if_neg hc16] at hsn
   refine cf (an (aP rfl (ai (bc _ _ rfl rfl (be ab)) ?_)))
   refine ba rfl (ax (⟨k+1,?_,?_,?_⟩))
   ·omega
   ·skip
    refine Le.mkJ [] [] rfl ?_ ?_ trivial trivial ?_
    ·exact ⟨(iS rfl),(bY ag),(bY ab),trivial⟩
    ·exact trivial
    ·kernel_rfl
   ·omega
 ·skip
  obtain rfl:k=l.length:=by omega
  rw [List.take_length]
  refine bK (id (hK3 _ ?_))
  clear hK3;try clear K3
  exact am (aP rfl (ba rfl (aj (aE (aX (.inr rfl) rfl (.tmp (rfl:_=AV.v _)) (Le.out [] [] .v rfl rfl rfl trivial trivial))))))

theorem vz (xs:List Int) (x:Int) (h1:xs.length≤4611686018427387904):
  Spec Tryz.prog 35 (bj [.sl xs.length (cu xs), .v (.int .i64 x)] []) (aT (.v (.bool (decide (x∈xs)))) []):=by
 refine Spec.ofN Tryz.func35 rfl Tryz.ntmps35 rfl ?_
 refine am (ci rfl (aj (aH fun K2 hK2=> ?_)))
 refine am (ba rfl (aj (au ?_)))
 refine bD (α:=Nat) (fun k=> k≤xs.length∧x∉xs.take k) 18 [(0,_),(1,_)] [] (fun k=> [(5, .v (.int .i64 (k:Int)))]) (fun k=> []) [] [] (fun k=> xs.length - k) 0 ?_ (by
  refine Le.mkJ [] [] rfl ?_ ?_ trivial trivial ?_
  ·exact ⟨(iS rfl),(iV rfl),(bY ag),trivial⟩
  ·exact trivial
  ·kernel_rfl) ?_
 ·exact ⟨Nat.zero_le _,by simp⟩
 intro k hk
 obtain ⟨hk,hnt⟩:=hk
 refine aH fun K4 hK4=> ?_
 refine am (aP rfl (ef rfl (ai (bI _ aa rfl) (ai (bp _ _ rfl rfl rfl) (aj (aO rfl (fun hc9=> ?_) (fun hc9=> ?_)))))))
 ·skip
  have hkx:k < xs.length:=by omega
  have hgk:xs.getD k 0=xs[k]:=by rw [List.getD_eq_getElem?_getD,List.getElem?_eq_getElem hkx];rfl
  refine bB (hK4 _ ?_)
  clear hK4;try clear K4
  refine aq (au (am (ef rfl (aP rfl (ai (bi _ _ aa rfl rfl _ rfl ab (by (simp only [aZ,bq,bo,aZ,dm,bN];omega)) (by exact Nat.mul_one _)) ?_)))))
  refine ai (bH _ aa rfl (by exact dl _ _ ab) rfl) ?_
  refine aP rfl (ai (br _ _ rfl rfl rfl) (aj (aO rfl (fun hc17=> ?_) (fun hc17=> ?_))))
  ·skip
   refine am (ci rfl (aj (aE (aX (.inr rfl) rfl (.tmp (rfl:_=AV.v (.bool _))) (Le.out [] [] (hG ?_) rfl rfl rfl trivial trivial)))))
   rw [hgk] at hc17
   exact decide_eq_true (hc17 ▸ List.getElem_mem hkx)
  ·skip
   refine cf (an (aP rfl (ai (bc _ _ rfl rfl (be ab)) ?_)))
   refine ba rfl (ax (⟨k+1,?_,?_,?_⟩))
   ·rw [hgk] at hc17
    refine ⟨by omega,?_⟩
    rw [List.take_succ_eq_append_getElem hkx,List.mem_append,List.mem_singleton]
    exact fun h=> h.elim hnt fun e=> hc17 (by rw [e])
   ·skip
    refine Le.mkJ [] [] rfl ?_ ?_ trivial trivial ?_
    ·exact ⟨(iS rfl),(iV rfl),(bY ag),trivial⟩
    ·exact trivial
    ·kernel_rfl
   ·omega
 ·skip
  have hall:x∉xs:=by rwa [List.take_of_length_le ab] at hnt
  refine bK (id (hK2 _ ?_))
  clear hK2;try clear K2
  refine am (ci rfl (aj (aE (aX (.inr rfl) rfl (.tmp (rfl:_=AV.v (.bool _))) (Le.out [] [] (hG ?_) rfl rfl rfl trivial trivial)))))
  exact decide_eq_false hall
def ks (l:List Int) (x:Int):List Int:=if x∈l then l else l.takeWhile (fun y=> decide (y < x))++[x]++l.dropWhile (fun y=> decide (y < x))
theorem ze: ∀ (l:List Int) (x:Int) (k:Nat),(∀ j,j < k→l.getD j 0 < x)→k≤l.length→(k < l.length→ ¬ l.getD k 0 < x)→l.takeWhile (fun y=> decide (y < x))=l.take k∧l.dropWhile (fun y=> decide (y < x))=l.drop k
 | [],x,k,_,hk,_=> by simp
 | a::l,x,0,_,_,h=> by
  have: ¬ a < x:=by simpa using h (by simp)
  simp [List.takeWhile_cons,List.dropWhile_cons,this]
 | a::l,x,k+1,h,hk,h2=> by
  have ha:a < x:=by simpa using h 0 ab
  obtain ⟨h3,h4⟩:=ze l x k (fun j hj=> by simpa using h (j+1) ab) (by simpa using hk) (fun h5=> by simpa using h2 (by simpa using h5))
  simp [List.takeWhile_cons,List.dropWhile_cons,ha,h3,h4]
theorem wa (l:List Int) (x:Int) (hl:l.length≤1000000):
  Spec Tryz.prog 61 (bj [.sl l.length (cu l), .v (.int .i64 x)] []) (aT (.sl (ks l x).length (cu (ks l x))) []):=by
 have hh:=vz l x ab
 unfold ks
 by_cases hx:x∈l
 ·rw [if_pos hx]
  rw [decide_eq_true hx] at hh
  refine Spec.ofN Tryz.func61 rfl Tryz.ntmps61 rfl ?_
  refine am (ai (bJ _ (rfl:_=AV.v (.slice _ _ _))) (aj (aq (am (ef rfl (aP rfl (ai (aF aa al (hh) rfl rfl) ?_)))))))
  exact aj (bC rfl rfl (am (ef rfl (ke rfl (aj (aE (aX (.inr rfl) rfl (.tmp (rfl:_=AV.sl _ _)) (Le.out [] [] .sl rfl rfl rfl trivial trivial))))))))
 ·rw [if_neg hx]
  rw [decide_eq_false hx] at hh
  refine Spec.ofN Tryz.func61 rfl Tryz.ntmps61 rfl ?_
  refine am (ai (bJ _ (rfl:_=AV.v (.slice _ _ _))) (aj (aq (am (ef rfl (aP rfl (ai (aF aa al (hh) rfl rfl) ?_)))))))
  refine aj (aS rfl rfl (aL (am (ai (mP (5,0) _ 3 1 rfl rfl) ?_))))
  refine aj (am (ba rfl (aj (aH fun K6 hK6=> ?_))))
  refine au ?_
  refine bD (α:=Nat) (fun k=> k≤l.length∧ ∀ j,j < k→l.getD j 0 < x) 41 [(0,_),(1,_)] [] (fun k=> [(6, .v (.int .i64 (k:Int))),(5, .ref (5,0) 0 (l.take k).length)]) (fun k=> [((5,0), .row 3 1 (cu (l.take k)))]) [] [] (fun k=> l.length - k) 0 ?_ (by
   refine Le.mkJ [] [] rfl ?_ ?_ trivial trivial ?_
   ·exact ⟨(iS rfl),(iV rfl),(bY ag),(cq rfl ag),trivial⟩
   ·exact ⟨(cw rfl rfl rfl ag),trivial⟩
   ·kernel_rfl) ?_
  ·exact ⟨Nat.zero_le _,fun j hj=> absurd hj (Nat.not_lt_zero _)⟩
  intro k hk
  obtain ⟨hk,hkj⟩:=hk
  have hlt:(l.take k).length=k:=by rw [List.length_take];omega
  refine aH fun K7 hK7=> ?_
  refine aH fun K8 hK8=> ?_
  refine an (aP rfl (ef rfl (ai (bI _ aa rfl) (ai (bp _ _ rfl rfl rfl) (cM rfl (dx (fun hg15=> ?_) (fun hg15=> ?_)))))))
  ·skip
   refine ay rfl rfl (aC _ (rfl:_=AV.sl _ _)) (ay rfl rfl (aC _ (rfl:_=AV.v (.int _ _))) (ay rfl rfl (bi _ _ aa rfl rfl _ rfl ab (by (simp only [aZ,bq,bo,aZ,dm,bN];omega)) (by exact Nat.mul_one _)) ?_))
   refine ay rfl rfl (bH _ aa rfl (by exact dl _ _ ab) rfl) ?_
   refine ay rfl rfl (aC _ (rfl:_=AV.v (.int _ _))) (ay rfl rfl (bp _ _ rfl rfl rfl) (ai (aG _ _ _ rfl (rfl:_=AV.v (.bool _))) (ax (hK8 _ ?_))))
   clear hK8;try clear K8
   refine aO rfl (fun hc22=> ?_) (fun hc22=> ?_)
   ·skip
    have hkl:k < l.length:=by omega
    have hs:l.take (k+1)=l.take k++[l.getD k 0]:=by rw [List.take_succ_eq_append_getElem hkl,List.getD_eq_getElem?_getD,List.getElem?_eq_getElem hkl];rfl
    have hl1:(l.take (k+1)).length=(l.take k).length+1:=by rw [hs];simp
    refine bB (hK7 _ ?_)
    clear hK7;try clear K7
    refine au (am (ei rfl (ef rfl (aP rfl (ai (bi _ _ aa rfl rfl _ rfl ab (by (simp only [aZ,bq,bo,aZ,dm,bN];omega)) (by exact Nat.mul_one _)) ?_)))))
    refine ai (bH _ aa rfl (by exact dl _ _ ab) rfl) ?_
    refine ai (aU _ _ aa rfl ag (by (simp <;> rfl)) ah rfl) ?_
    refine ai (cE (29,0) _ _ aa rfl rfl (by simp) (.sl rfl) ab rfl ((fm _ _).trans (congrArg cu hs.symm)) hl1.symm) ?_
    refine dY rfl (aj ?_)
    refine aN (σ':=aA 41 [(0,_),(1,_),(5,_),(6,_)] [((29,0),_)] [] []) kp ?_
    refine an (aP rfl (ai (bc _ _ rfl rfl (be ab)) ?_))
    refine ba rfl (ax (⟨k+1,?_,?_,?_⟩))
    ·exact ⟨by omega,fun j hj=> (Nat.lt_or_ge j k).elim (fun h=> hkj j h) fun h=> (show j=k by omega) ▸ hc22⟩
    ·skip
     refine Le.mkJ [((5,0),(29,0))] [] rfl ?_ ?_ trivial trivial ?_
     ·exact ⟨(by repeat' (exact Lv.sl)),(by repeat' (exact Lv.v)),(bY ag),(cq rfl ag),trivial⟩
     ·exact ⟨(cw rfl rfl rfl ag),trivial⟩
     ·kernel_rfl
    ·omega
   ·skip
    obtain ⟨ht1,ht2⟩:=ze l x k hkj hk fun _=> by omega
    refine bK (id (hK6 _ ?_))
    clear hK6;try clear K6
    refine am (ei rfl (aP rfl (ai (aU _ _ aa rfl ag (by (simp <;> rfl)) ah rfl) ?_)))
    refine ai (cE (35,0) _ _ aa rfl rfl (by simp) (.sl rfl) ab rfl (fm (l.take k) x) (show (l.take k).length+1=(l.take k++[x]).length by simp)) ?_
    refine dY rfl (aj (aq ?_))
    refine aN (σ':=aA 41 [(0,_),(5,_),(6,_)] [((35,0),_)] [] []) kp ?_
    refine an (ei rfl (ef rfl (aP rfl (ai (jx _ _ _ aa rfl k l.length (.lit rfl rfl) .dflt ab (Nat.le_refl _) (show _=cu (l.drop k) by simp [cu,List.take_of_length_le]) (show l.length - k=(l.drop k).length by simp)) ?_))))
    refine ai (cE (40,0) _ _ aa rfl rfl (by simp) (.sl (by simp)) (by simp;omega) rfl (show _=cu (l.take k++[x]++l.drop k) by simp [cu]) (show _=(l.take k++[x]++l.drop k).length by simp;omega)) ?_
    refine dY rfl (aj (aE ?_))
    rw [ht1,ht2]
    exact aX (.inr rfl) rfl (.tmp (rfl:_=AV.ref _ _ _)) (Le.out [] [(40,0)] (fY rfl rfl (by simp) rfl) rfl rfl rfl tr trivial)
  ·skip
   obtain ⟨ht1,ht2⟩:=ze l x k hkj hk fun h=> absurd h ab
   refine aW rfl rfl ah ?_
   refine aW rfl rfl ah ?_
   refine aW rfl rfl ah ?_
   refine aW rfl rfl ah ?_
   refine aW rfl rfl ah ?_
   refine aW rfl rfl ah ?_
   refine ai (aG _ _ _ rfl (rfl:_=AV.v (.bool _))) (ax (hK8 _ ?_))
   clear hK8;try clear K8
   refine aS rfl rfl (bK (id (hK6 _ ?_)))
   clear hK6;try clear K6
   refine am (ei rfl (aP rfl (ai (aU _ _ aa rfl ag (by (simp <;> rfl)) ah rfl) ?_)))
   refine ai (cE (35,0) _ _ aa rfl rfl (by simp) (.sl rfl) ab rfl (fm (l.take k) x) (show (l.take k).length+1=(l.take k++[x]).length by simp)) ?_
   refine dY rfl (aj (aq ?_))
   refine aN (σ':=aA 41 [(0,_),(5,_),(6,_)] [((35,0),_)] [] []) kp ?_
   refine an (ei rfl (ef rfl (aP rfl (ai (jx _ _ _ aa rfl k l.length (.lit rfl rfl) .dflt ab (Nat.le_refl _) (show _=cu (l.drop k) by simp [cu,List.take_of_length_le]) (show l.length - k=(l.drop k).length by simp)) ?_))))
   refine ai (cE (40,0) _ _ aa rfl rfl (by simp) (.sl (by simp)) (by simp;omega) rfl (show _=cu (l.take k++[x]++l.drop k) by simp [cu]) (show _=(l.take k++[x]++l.drop k).length by simp;omega)) ?_
   refine dY rfl (aj (aE ?_))
   rw [ht1,ht2]
   exact aX (.inr rfl) rfl (.tmp (rfl:_=AV.ref _ _ _)) (Le.out [] [(40,0)] (fY rfl rfl (by simp) rfl) rfl rfl rfl tr trivial)
end Go.Proofs.YtmjnackchaahbaaGreat
