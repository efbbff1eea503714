/- Part 18 of the texts that the walk leans on: the machine, the walks, the plain laws. -/
import Derived.Shelf.SlIterI.Nil
import Derived.Shelf.SortM.Plain
import Derived.Shelf.SortM.SortNone
import Derived.Ground.GgzProg
import Derived.Ground.SlgmProg
import Derived.Test.YtmjnackchaahbaaGreatVaZ17
set_option linter.unusedSimpArgs false
set_option linter.unusedVariables false
namespace Go.Proofs.YtmjnackchaahbaaGreat
open Go.RowKit Go.Maps Go.Sort Go.Shelf

def mH:Go.Shelf.Ren:=⟨fun | 7=> 95 | 10=> 158 | n=> n,fun | 23=> 175 | 26=> 3 | 3=> 176 | 28=> 179 | 0=> 0 | 27=> 178 | 33=> 216 | 4=> 4 | n=> n,fun | n=> n⟩
theorem Ai:Go.Proofs.SlLaysZI.n7 Tryz.prog mH:=
  { mixed:=by kernel_rfl,
    f7:=⟨Tryz.f95.name,by decide,Tryz.func95.trans (congrArg some ae)⟩,
    f10:=⟨Tryz.f158.name,by decide,Tryz.func158.trans (congrArg some ae)⟩,
    t0:=Tryz.underlying0,
    a0:=Tryz.isAgg0,
    z0:=Tryz.sizeOf0,
    v0:=Tryz.zeroValue0,
    t4:=Tryz.underlying4,
    a4:=Tryz.isAgg4,
    z4:=Tryz.sizeOf4,
    v4:=Tryz.zeroValue4,
    t23:=Tryz.underlying175,
    a23:=Tryz.isAgg175,
    z23:=Tryz.sizeOf175,
    v23:=Tryz.zeroValue175,
    t26:=Tryz.underlying3,
    a26:=Tryz.isAgg3,
    z26:=Tryz.sizeOf3,
    v26:=Tryz.zeroValue3,
    t27:=Tryz.underlying178,
    a27:=Tryz.isAgg178,
    z27:=Tryz.sizeOf178,
    v27:=Tryz.zeroValue178,
    t28:=Tryz.underlying179,
    a28:=Tryz.isAgg179,
    z28:=Tryz.sizeOf179,
    v28:=Tryz.zeroValue179,
    t33:=Tryz.underlying216,
    a33:=Tryz.isAgg216,
    z33:=Tryz.sizeOf216,
    v33:=Tryz.zeroValue216 }
def kG:Go.Shelf.Ren:=⟨fun | 6=> 94 | 8=> 156 | 9=> 157 | 11=> 191 | 13=> 193 | 12=> 192 | 23=> 219 | 24=> 220 | 14=> 211 | 15=> 212 | 16=> 213 | 17=> 214 | 18=> 215 | 19=> 216 | 20=> 207 | 21=> 217 | 22=> 218 | 25=> 230 | 26=> 231 | 27=> 232 | 28=> 233 | 29=> 234 | 30=> 228 | 31=> 239 | n=> n,fun | 26=> 3 | 28=> 179 | 24=> 22 | 0=> 0 | 3=> 3 | 37=> 243 | 48=> 260 | 50=> 262 | 4=> 4 | 40=> 254 | 39=> 253 | 45=> 193 | 5=> 5 | 9=> 9 | 51=> 265 | 55=> 269 | 57=> 272 | 58=> 273 | 33=> 216 | n=> n,fun | n=> n⟩
theorem uY:Go.Proofs.SlLaysZI.n6 Tryz.prog kG:=
  { mixed:=by kernel_rfl,
    f6:=⟨Tryz.f94.name,by decide,Tryz.func94.trans (congrArg some ae)⟩,
    f8:=⟨Tryz.f156.name,by decide,Tryz.func156.trans (congrArg some ae)⟩,
    f11:=⟨Tryz.f191.name,by decide,Tryz.func191.trans (congrArg some ae)⟩,
    t0:=Tryz.underlying0,
    a0:=Tryz.isAgg0,
    z0:=Tryz.sizeOf0,
    v0:=Tryz.zeroValue0,
    t24:=Tryz.underlying22,
    a24:=Tryz.isAgg22,
    z24:=Tryz.sizeOf22,
    v24:=Tryz.zeroValue22,
    t26:=Tryz.underlying3,
    a26:=Tryz.isAgg3,
    z26:=Tryz.sizeOf3,
    v26:=Tryz.zeroValue3,
    t28:=Tryz.underlying179,
    a28:=Tryz.isAgg179,
    z28:=Tryz.sizeOf179,
    v28:=Tryz.zeroValue179,
    i26:=by kernel_rfl }
def rV:Go.Shelf.Ren:=⟨fun | 5=> 157 | 8=> 193 | 7=> 192 | 19=> 219 | 20=> 220 | 10=> 211 | 11=> 212 | 12=> 213 | 13=> 214 | 14=> 215 | 15=> 216 | 16=> 207 | 17=> 217 | 18=> 218 | 30=> 230 | 31=> 231 | 32=> 232 | 33=> 233 | 34=> 234 | 35=> 228 | 40=> 239 | n=> n,fun | 23=> 22 | 25=> 3 | 3=> 3 | 32=> 243 | 22=> 22 | 0=> 0 | 44=> 260 | 46=> 262 | 4=> 4 | 36=> 254 | 35=> 253 | 41=> 193 | 5=> 5 | 9=> 9 | 53=> 265 | 57=> 269 | 63=> 272 | 64=> 273 | n=> n,fun | n=> n⟩
theorem uD:Go.Proofs.SlLaysM.n5 Tryz.prog rV:=
  { mixed:=by kernel_rfl,
    f5:=⟨Tryz.f157.name,by decide,Tryz.func157.trans (congrArg some ae)⟩,
    f7:=⟨Tryz.f192.name,by decide,Tryz.func192.trans (congrArg some ae)⟩,
    f8:=Tryz.func193.trans (congrArg some ae),
    f10:=⟨Tryz.f211.name,by decide,Tryz.func211.trans (congrArg some ae)⟩,
    f11:=⟨Tryz.f212.name,by decide,Tryz.func212.trans (congrArg some ae)⟩,
    f12:=⟨Tryz.f213.name,by decide,Tryz.func213.trans (congrArg some ae)⟩,
    f13:=⟨Tryz.f214.name,by decide,Tryz.func214.trans (congrArg some ae)⟩,
    f14:=⟨Tryz.f215.name,by decide,Tryz.func215.trans (congrArg some ae)⟩,
    f15:=⟨Tryz.f216.name,by decide,Tryz.func216.trans (congrArg some ae)⟩,
    f16:=⟨Tryz.f207.name,by decide,Tryz.func207.trans (congrArg some ae)⟩,
    f17:=⟨Tryz.f217.name,by decide,Tryz.func217.trans (congrArg some ae)⟩,
    f18:=⟨Tryz.f218.name,by decide,Tryz.func218.trans (congrArg some ae)⟩,
    f19:=Tryz.func219.trans (congrArg some ae),
    f20:=Tryz.func220.trans (congrArg some ae),
    f30:=⟨Tryz.f230.name,by decide,Tryz.func230.trans (congrArg some ae)⟩,
    f31:=Tryz.func231.trans (congrArg some ae),
    f32:=Tryz.func232.trans (congrArg some ae),
    f33:=⟨Tryz.f233.name,by decide,Tryz.func233.trans (congrArg some ae)⟩,
    f34:=⟨Tryz.f234.name,by decide,Tryz.func234.trans (congrArg some ae)⟩,
    f35:=⟨Tryz.f228.name,by decide,Tryz.func228.trans (congrArg some ae)⟩,
    f40:=⟨Tryz.f239.name,by decide,Tryz.func239.trans (congrArg some ae)⟩,
    t0:=Tryz.underlying0,
    a0:=Tryz.isAgg0,
    z0:=Tryz.sizeOf0,
    v0:=Tryz.zeroValue0,
    t3:=Tryz.underlying3,
    a3:=Tryz.isAgg3,
    z3:=Tryz.sizeOf3,
    v3:=Tryz.zeroValue3,
    t4:=Tryz.underlying4,
    a4:=Tryz.isAgg4,
    z4:=Tryz.sizeOf4,
    v4:=Tryz.zeroValue4,
    t5:=Tryz.underlying5,
    a5:=Tryz.isAgg5,
    z5:=Tryz.sizeOf5,
    v5:=Tryz.zeroValue5,
    t9:=Tryz.underlying9,
    a9:=Tryz.isAgg9,
    z9:=Tryz.sizeOf9,
    v9:=Tryz.zeroValue9,
    t22:=Tryz.underlying22,
    a22:=Tryz.isAgg22,
    z22:=Tryz.sizeOf22,
    v22:=Tryz.zeroValue22,
    t23:=Tryz.underlying22,
    a23:=Tryz.isAgg22,
    z23:=Tryz.sizeOf22,
    v23:=Tryz.zeroValue22,
    t25:=Tryz.underlying3,
    a25:=Tryz.isAgg3,
    z25:=Tryz.sizeOf3,
    v25:=Tryz.zeroValue3,
    t32:=Tryz.underlying243,
    a32:=Tryz.isAgg243,
    z32:=Tryz.sizeOf243,
    v32:=Tryz.zeroValue243,
    t35:=Tryz.underlying253,
    a35:=Tryz.isAgg253,
    z35:=Tryz.sizeOf253,
    v35:=Tryz.zeroValue253,
    t36:=Tryz.underlying254,
    a36:=Tryz.isAgg254,
    z36:=Tryz.sizeOf254,
    v36:=Tryz.zeroValue254,
    t41:=Tryz.underlying193,
    a41:=Tryz.isAgg193,
    z41:=Tryz.sizeOf193,
    v41:=Tryz.zeroValue193,
    t44:=Tryz.underlying260,
    a44:=Tryz.isAgg260,
    z44:=Tryz.sizeOf260,
    v44:=Tryz.zeroValue260,
    t46:=Tryz.underlying262,
    a46:=Tryz.isAgg262,
    z46:=Tryz.sizeOf262,
    v46:=Tryz.zeroValue262,
    t53:=Tryz.underlying265,
    a53:=Tryz.isAgg265,
    z53:=Tryz.sizeOf265,
    v53:=Tryz.zeroValue265,
    t57:=Tryz.underlying269,
    a57:=Tryz.isAgg269,
    z57:=Tryz.sizeOf269,
    v57:=Tryz.zeroValue269,
    t63:=Tryz.underlying272,
    a63:=Tryz.isAgg272,
    z63:=Tryz.sizeOf272,
    v63:=Tryz.zeroValue272,
    t64:=Tryz.underlying273,
    a64:=Tryz.isAgg273,
    z64:=Tryz.sizeOf273,
    v64:=Tryz.zeroValue273 }
theorem CP (m:Nat):AnyZI.SortsIn Tryz.prog kG Fence.wide m:=
  ⟨fun blk off cap ss W hH hblk hsz=> callsIn_wide.2 (AnyM.slices_Sort_int uD blk off cap ss W hH hblk hsz),
   fun p cap W=> callsIn_wide.2 (AnyM.slices_Sort_int_none uD p cap W)⟩
abbrev EQ:Value→Option (DataW Unit×List MemPlace):=fun _=> some (.nil,[])
theorem xJ (M:List (Int×Value)):(eb M).map (fun x=> x.key)=M.map fun p=> Value.int .i64 p.1:=by
  apply List.ext_getElem?
  intro j
  rw [List.getElem?_map,iE,List.getElem?_map]
  cases M[j]? <;> rfl
theorem po (M:List (Int×Value)):(eb M).map (fun x=> x.born)=List.range M.length:=by
  apply List.ext_getElem?
  intro j
  rw [List.getElem?_map,iE]
  by_cases h:j < M.length
  · rw [List.getElem?_eq_getElem h,List.getElem?_range h];rfl
  · rw [List.getElem?_eq_none ab,List.getElem?_eq_none (by simp;omega)];rfl
theorem xP {M:List (Int×Value)} {x:MapEntry} (h:x∈eb M): ∃ p∈M,x.key= .int .i64 p.1:=by
  obtain ⟨j,hj⟩:=List.getElem?_of_mem h
  rw [iE] at hj
  obtain ⟨p,hp,rfl⟩:=Option.map_eq_some_iff.1 hj
  exact ⟨p,List.mem_of_getElem? hp,rfl⟩
theorem DE {a:Int} (h:0≤a∧a≤1000000):(Lit.int .i64 a).wf=true:=by
  have h1:IntKind.i64.min= -9223372036854775808:=by decide
  have h2:IntKind.i64.max=9223372036854775807:=by decide
  simp only [Lit.wf,h1,h2,Bool.and_eq_true,decide_eq_true_eq]
  omega
theorem Ae {P:Program} {a:Int} (hk:P.underlying 3=some (.int .i64)) (h:0≤a∧a≤1000000):keyOf P 3 (.int .i64 a)=some (.int .i64 a):=keyOf_int_mk hk (DE h)
theorem Fu:Cn:=by
  intro M g b w hlen hnd hrg hlt hcell hb
  have hk3:Tryz.prog.underlying 3=some (.int .i64):=Tryz.underlying3
  have hlen2:(eb M).length=M.length:=xm M
  have hrd: ∀ x∈eb M,∃ p∈M,Go.WideElems.rd Tryz.prog 3 EQ x=some (.int .i64 p.1, .nil)∧x.key= .int .i64 p.1:=by
    intro x hx
    obtain ⟨p,hp,hkx⟩:=xP hx
    refine ⟨p,hp,?_,hkx⟩
    have:=Go.WideElems.rd_mk (P:=Tryz.prog) (k:=3) (R:=EQ) (val:=x.val) (born:=x.born) (Ae hk3 (hrg p hp)) (yv:=(.nil,[])) rfl
    rw [← hkx] at this
    exact this
  obtain ⟨E,hE⟩: ∃ E,E=((eb M).map (Go.WideElems.rg Tryz.prog 3 EQ)).foldr DataW.insert []:=⟨_,rfl⟩
  have hperm:E.Perm ((eb M).map (Go.WideElems.rg Tryz.prog 3 EQ)):=by rw [hE];exact Go.WideShapes.sorted_perm _
  have hkeys:((eb M).map (Go.WideElems.rg Tryz.prog 3 EQ)).map (fun p=> Go.intOf p.1)=M.map (·.1):=by
    apply List.ext_getElem?
    intro j
    rw [List.getElem?_map,List.getElem?_map,List.getElem?_map]
    cases hj:(eb M)[j]? with
    | none=>
      rw [iE] at hj
      have:=Option.map_eq_none_iff.1 hj
      rw [this];rfl
    | some x=>
      obtain ⟨q,_,h1,h2⟩:=hrd x (List.mem_of_getElem? hj)
      rw [iE] at hj
      obtain ⟨p,hp,rfl⟩:=Option.map_eq_some_iff.1 hj
      rw [hp]
      simp only [Option.map_some,Go.WideElems.rg_of h1,Go.intOf]
      have h2:Value.int .i64 p.1=Value.int .i64 q.1:=h2
      have h3:p.1=q.1:=by injection h2
      rw [h3]
  have hown:w.ownsMap Tryz.prog 3 EQ b M.length (.map E):=by
    refine ⟨(eb M).toArray,M.length,hb,⟨by simp only [List.size_toArray];rw [hlen2];unfold maxLen;omega,⟨?_,?_,?_⟩,fun x hx=> ?_⟩,by simp only [List.size_toArray];omega,by rw [hE]⟩
    · intro x hx
      have h1:x.born∈(eb M).map (fun x=> x.born):=List.mem_map_of_mem (by simpa using hx)
      rw [po] at h1
      simpa using h1
    · show ((eb M).map (fun x=> x.born)).Nodup
      rw [po];exact List.nodup_range
    · show ((eb M).map (fun x=> x.key)).Nodup
      rw [xJ]
      have:(M.map fun p=> Value.int .i64 p.1)=(M.map (·.1)).map (fun n=> Value.int .i64 n):=by rw [List.map_map];rfl
      rw [this]
      exact hnd.map (fun n=> Value.int .i64 n) fun a b h e=> h (by cases e;rfl)
    · obtain ⟨p,_,h1,_⟩:=hrd x (by simpa using hx)
      exact ⟨_,h1⟩
  have hsz:Maps.size (.map E:DataW Unit)=M.length:=by
    show E.length=_
    rw [hperm.length_eq,List.length_map,hlen2]
  have hseq:SeqGives Fence.wide 2 Tryz.prog 158 #[.pointer (some ⟨g,0,none⟩)] encZ (fun ss=> ss.Perm (intKeys (.map E:DataW Unit))) (Maps.size (.map E:DataW Unit)) w:=
    AnyZI.keys_gives (ρ:=mH) { Ai with } Fence.wide 2 trivial rfl ab g b M.length (.map E) w hlt hcell hown
  have cS:=AnyZI.sorted_in uY Fence.wide 5 trivial trivial trivial trivial rfl ab (CP _) (enters_of Tryz.func157 ae rfl) 158 #[.pointer (some ⟨g,0,none⟩)] trivial (enters_of Tryz.func158 ae rfl) _ _ (by rw [hsz];unfold maxLen;omega) (by rw [hsz];omega) _ hseq
  change CallsIn _ _ Tryz.prog 94 _ _ _ at cS
  refine ((callsIn_wide (n:=5)).1 cS).mono ?_
  rintro e w' ⟨v,ss,rfl,hS,hrow,_,hbl⟩
  refine ⟨v,ss,rfl,?_,hrow,hbl⟩
  have h1:ss.Perm (E.map fun p=> Go.intOf p.1):=hS
  have h2:=hperm.map (fun p=> Go.intOf p.1)
  rw [hkeys] at h2
  exact h1.trans h2
theorem Fk:yk:=xc Fu

theorem vY (l:List Int) (i:Nat) (k:Int) (hk:1≤k∧k≤1000) (hi:i < l.length) (hn:l.length≤4611686018427387904):Spec Tryz.prog 32 (bi [.sl l.length (da l), .v (.int .i64 (i:Int)), .v (.int .i64 k)] []) (aW (.v (.int .i64 (fM l i k))) []):=by
 have htm:=Cv (l.getD i 0) k hk.1
 refine Spec.ofN Tryz.func32 rfl Tryz.ntmps32 rfl ?_
 refine am (ba rfl (aj (aq (am (aR rfl (ai (bp (r:=false) _ _ rfl rfl (decide_eq_false ab)) ?_))))))
 refine cH rfl (ax rfl rfl (aD _ (rfl:_=AV.v (.int _ _))) (ax rfl rfl (aD _ (rfl:_=AV.sl _ _)) (ax rfl rfl (bG _ aa rfl) (ax rfl rfl (eF (r:=false) _ _ rfl rfl (decide_eq_false ab)) ?_))))
 refine ai (aF _ _ _ rfl (rfl:_=AV.v (.bool _))) (aj (aQ rfl rfl (aI (am (ep rfl (aR rfl (ai (bf _ _ aa rfl rfl _ rfl ab (by (simp only [aZ,bm,bl,aZ,fu,bK];omega)) (by exact Nat.mul_one _)) ?_)))))))
 refine ai (bB _ aa rfl (by exact dj _ _ ab) rfl) ?_
 refine aR rfl (ai (cQ _ _ rfl rfl ab rfl) ?_)
 refine aR rfl (ai (bc (r:=(l.getD i 0).tmod k+k) _ _ rfl rfl (bq ab)) ?_)
 refine aR rfl (ai (cQ (r:=fM l i k) _ _ rfl rfl ab htm.2.2) ?_)
 exact ba rfl (aj (aC (aY (.inr rfl) rfl (.tmp (rfl:_=AV.v _)) (Le.out [] [] .v rfl rfl rfl trivial trivial))))
theorem tC (l:List Int) (i:Nat) (k:Int) (hi:l.length≤i) (hn:i≤4611686018427387904):Spec Tryz.prog 32 (bi [.sl l.length (da l), .v (.int .i64 (i:Int)), .v (.int .i64 k)] []) (aW (.v (.int .i64 (fM l i k))) []):=by
 rw [show fM l i k=0 by unfold fM;rw [List.getD_eq_getElem?_getD,List.getElem?_eq_none hi];simp]
 refine Spec.ofN Tryz.func32 rfl Tryz.ntmps32 rfl ?_
 refine am (ba rfl (aj (aq (am (aR rfl (ai (bp (r:=false) _ _ rfl rfl (decide_eq_false ab)) ?_))))))
 refine cH rfl (ax rfl rfl (aD _ (rfl:_=AV.v (.int _ _))) (ax rfl rfl (aD _ (rfl:_=AV.sl _ _)) (ax rfl rfl (bG _ aa rfl) (ax rfl rfl (eF (r:=true) _ _ rfl rfl (decide_eq_true ab)) ?_))))
 exact ai (aF _ _ _ rfl (rfl:_=AV.v (.bool _))) (aj (bD rfl rfl (am (ba rfl (aj (aC (aY (.inr rfl) rfl (.tmp (rfl:_=AV.v _)) (Le.out [] [] .v rfl rfl rfl trivial trivial))))))))
theorem rB (l:List Int) (i:Nat) (k:Int) (hk:1≤k∧k≤1000) (hi:i≤90000) (hn:l.length≤4611686018427387904):Spec Tryz.prog 32 (bi [.sl l.length (da l), .v (.int .i64 (i:Int)), .v (.int .i64 k)] []) (aW (.v (.int .i64 (fM l i k))) []):=by
 by_cases h:i < l.length
 ·exact vY l i k hk h hn
 ·exact tC l i k ab ab

def jD (l:List Int) (x:Int):List Int:=if x∈l then l else l.takeWhile (fun y=> decide (y < x))++[x]++l.dropWhile (fun y=> decide (y < x))

def kz (l:List Nat):List Int:=l.foldl (fun m (i:Nat)=> jD m (i:Int)) []
theorem xK (l:List Int) (x:Int):(jD l x).length≤l.length+1:=by
 unfold jD
 split
 ·omega
 ·have h:=congrArg List.length (List.takeWhile_append_dropWhile (p:=fun y=> decide (y < x)) (l:=l))
  simp only [List.length_append,List.length_cons,List.length_nil] at h ⊢
  omega
theorem xq (l:List Nat):(kz l).length≤l.length:=by
 have: ∀ (l:List Nat) (m:List Int),(l.foldl (fun m (i:Nat)=> jD m (i:Int)) m).length≤m.length+l.length:=by
  intro l
  induction l with
  | nil=> intro m;simp
  | cons a l ih=> intro m;have h1:=ih (jD m a);have h2:=xK m a;simp only [List.foldl_cons,List.length_cons];omega
 simpa [kz] using this l []

theorem pE {l:List Int} {x:Int} (h:x∉l):(jD l x).Perm (l++[x]):=by
 unfold jD
 rw [if_neg h]
 have e:=List.takeWhile_append_dropWhile (p:=fun y=> decide (y < x)) (l:=l)
 conv=> rhs;rw [← e]
 rw [List.append_assoc,List.append_assoc]
 exact List.Perm.append_left _ List.perm_append_comm
theorem ux {p:Int→Bool}: ∀ {l:List Int} {y:Int},y∈l.takeWhile p→p y=true
 | a::l,y,h=> by
  rw [List.takeWhile_cons] at h
  split at h
  ·rename_i ha
   rcases List.mem_cons.1 h with rfl | h
   ·exact ha
   ·exact ux h
  ·cases h
theorem yF {l:List Int} {x:Int} (h:l.Pairwise (· < ·)):(jD l x).Pairwise (· < ·):=by
 unfold jD
 split
 ·exact h
 ·rename_i hx
  have e:=List.takeWhile_append_dropWhile (p:=fun y=> decide (y < x)) (l:=l)
  have h':=h
  rw [← e] at h'
  obtain ⟨h1,h2,h3⟩:=List.pairwise_append.1 h'
  have ht: ∀ y∈l.takeWhile (fun y=> decide (y < x)),y < x:=fun y hy=> by
   have:=ux hy
   simpa using this
  have hd: ∀ y∈l.dropWhile (fun y=> decide (y < x)),x < y:=by
   intro y hy
   have hyl:y∈l:=by rw [← e];exact List.mem_append_right _ hy
   have hne:y≠x:=fun e=> hx (e ▸ hyl)
   cases hdw:l.dropWhile (fun y=> decide (y < x)) with
   | nil=> rw [hdw] at hy;cases hy
   | cons a t=>
    have ha: ¬ a < x:=by
     have:=List.head_dropWhile_not (p:=fun y=> decide (y < x)) (l:=l) (by rw [hdw];simp)
     simp only [hdw,List.head_cons] at this
     simpa using this
    rw [hdw] at hy h2
    rcases List.mem_cons.1 hy with rfl | hy
    ·omega
    ·have:=List.rel_of_pairwise_cons h2 hy;omega
  refine List.pairwise_append.2 ⟨List.pairwise_append.2 ⟨h1,by simp,fun a ha b hb=> ?_⟩,h2,fun a ha b hb=> ?_⟩
  ·rw [List.mem_singleton.1 hb];exact ht a ha
  ·rcases List.mem_append.1 ha with ha | ha
   ·exact h3 a ha b hb
   ·rw [List.mem_singleton.1 ha];exact hd b hb
theorem pi: ∀ (l:List Nat) (m:List Int) (M:List (Int×Value)),m.Perm (M.map (·.1))→(l.foldl (fun m (i:Nat)=> jD m (i:Int)) m).Perm ((l.foldl (fun M (i:Nat)=> fY M (i:Int) (.agg #[])) M).map (·.1))
 | [],_,_,h=> h
 | i::l,m,M,h=> pi l _ _ (by
  show (jD m (i:Int)).Perm ((fY M (i:Int) (.agg #[])).map (·.1))
  cases hg:lF M (i:Int) with
  | none=>
   have hn:(i:Int)∉m:=fun hm=> tQ hg (h.mem_iff.1 hm)
   have e:fY M (i:Int) (.agg #[])=M++[((i:Int), .agg #[])]:=by unfold fY;rw [hg];rfl
   rw [e,List.map_append]
   exact (pE hn).trans (h.append_right _)
  | some u=>
   have hm:(i:Int)∈m:=h.mem_iff.2 (List.mem_map.2 ⟨_,rN hg,rfl⟩)
   have e:fY M (i:Int) (.agg #[])=M:=by unfold fY;rw [hg];rfl
   rw [e]
   unfold jD
   rw [if_pos hm];exact h)
theorem nz: ∀ (l:List Nat) (m:List Int),m.Pairwise (· < ·)→(l.foldl (fun m (i:Nat)=> jD m (i:Int)) m).Pairwise (· < ·)
 | [],_,h=> h
 | _::l,_,h=> nz l _ (yF h)
theorem Dy (l:List Nat):kz l=jp (ng l):=by
 have hp:(kz l).Perm ((ng l).map (·.1)):=pi l [] [] (.refl _)
 have hs:(kz l).Pairwise (· < ·):=nz l [] .nil
 have h1:=qV hp
 have h2:(kz l).mergeSort (fun x y=> decide (x≤y))=kz l:=List.mergeSort_of_pairwise (hs.imp fun h=> by simp only [decide_eq_true_eq];omega)
 rw [← h2,h1];rfl

set_option maxHeartbeats 1000000 in
theorem sE (M:Mk) (h:Nat) (hh:h < 40) (he:M.P.e h < 0) (h0:0 < M.iv.length) (h1:M.iv.length≤1000):
  Spec Tryz.prog 59 (be [vr M.P, .v (.int .i64 (h:Int)), .agg [.sl M.iv.length (da M.iv), .v (.int .i64 (M.nm 0)), .v (.int .i64 (M.nm 1)), .v (.int .i64 (M.nm 2)), .v (.int .i64 (M.nm 3)), .v (.int .i64 (M.nm 4)), .v (.int .i64 (M.nm 5)), .v (.int .i64 (M.nm 6)), .v (.int .i64 (M.nm 7)), .v (.int .i64 (M.nm 8))],Di (4,9)] (zy M.ans [] (5,9))) (bg (.agg [.sl M.iv.length (da M.iv), .sl 0 [], .v (.int .i64 0), .v (.bool false), .sl 0 []]) (zy M.ans [] (5,8)) [(4,9),(5,8)] [(4,9)]):=by
 have hcl:=nF M.iv ab ab
 have hg:=qH M.P.c.length (inl M.P.c) M.P.e (M.P.d:Int) (M.P.v:Int) h hh
 refine Spec.ofNI Tryz.func59 rfl Tryz.ntmps59 rfl ?_
 refine am (ai (bk (4,0) _ rfl rfl) (ai (bk (6,0) _ rfl rfl) (ai (ay (8,0) aa rfl rfl) (aj (aq (bE 11 [13,14,15,16,17,18,19,20,21,22,23] [(22,0)] ae ae rfl (aL rfl) (rfl:_=[_,_,_,_,_,_,_,_,_,_,_]) (rfl:_=[_,_,_]) ?_))))))
 refine ap (_,[]) (fun τ=> aP _ aa rfl rfl rfl rfl) ?_
 refine eL rfl ?_
 refine ap (_,[]) (fun τ=> aP _ aa rfl rfl rfl rfl) ?_
 refine eK rfl ?_
 refine ap (_,[]) (fun τ=> aD _ (rfl:_=AV.fn _ _ _)) ?_
 refine eM rfl ?_
 refine ap (_,[]) (fun τ=> aD _ (rfl:_=AV.v (.int _ _))) ?_
 refine eP rfl ?_
 refine ap (_,[]) (fun τ=> aK _ aa rfl rfl rfl) ?_
 refine fe rfl ?_
 refine ap (_,[]) (fun τ=> eS _ _ aa rfl rfl rfl h rfl ab (by exact congrArg (fun z=> 0+1+z) (Nat.mul_one h))) ?_
 refine fB rfl ?_
 refine ap (_,[]) (fun τ=> aN _ aa rfl rfl (by exact (congrArg (fun z=> (Ax M.P.c.length (inl M.P.c) M.P.e (M.P.d:Int) (M.P.v:Int))[z]?) ab).trans hg)) ?_
 refine gy rfl ?_
 refine ap (_,[]) (fun τ=> aK _ aa rfl rfl rfl) ?_
 refine jS rfl ?_
 refine ap (_,[]) (fun τ=> aN _ aa rfl rfl (rfl:_=some (AV.sl _ _))) ?_
 refine kd rfl ?_
 refine ap (_,[((22,0),_)]) (fun τ=> (ef aa [((0,8),(22,0))] ar (hcl.toI) trivial tr tr rfl rfl ae ae)) ?_
 refine fW rfl ?_
 refine ap (_,[]) (fun τ=> aA _ aa rfl (by exact (rfl:_=some [AV.ref (22,0) 0 M.iv.length,AV.v (.slice none 0 0),AV.v (.int .i64 0),AV.v (.bool false),AV.v (.slice none 0 0)]))) ?_
 refine gA rfl (bh ⟨rfl,?_⟩)
 refine ai (aA _ aa rfl (by exact (rfl:_=some [_,_,_,_,_,_,_,_,_,_,_,_,_,_,_,_,_,_,_,_,_,_,_,_,_,_,_,_,_,_,_,_,_,_,_,_,_,_,_,_,_,_,_,_,_,_,_,_,_,_,_,_,_,_,_,_,_,_,_,_,_,_,_,_]))) ?_
 refine ai (bk (25,0) _ rfl rfl) (EH rfl (aj (aq (aq ?_))))
 refine aM (σ':=aB 108 [(4,_),(8,_),(9,_)] [((4,9),_),((5,9),_),((4,0),_),((8,0),_),((22,0),_),((25,0),_)] [(4,9),(5,9)] [(4,9)]) kp ?_
 refine an (bj rfl (ai (aS _ rfl rfl) (bF rfl rfl rfl (cI rfl rfl rfl (ai (bp (r:=true) _ _ rfl rfl (decide_eq_true he)) ?_)))))
 exact aj (bD rfl rfl (am (bj rfl (ai (aS _ rfl rfl) (bF rfl rfl rfl (ai (aP _ aa rfl rfl rfl rfl) (bO rfl rfl rfl rfl rfl rfl (aj (aC (aY (.inr rfl) rfl (.cellA aa rfl rfl rfl) (Le.outI [((5,8),(5,9))] [(22,0)] (.agg rfl (aH (iy rfl rfl (by simp) rfl) lz)) rfl rfl rfl tr ob tr rfl)))))))))))
set_option maxHeartbeats 1000000 in
theorem rC (M:Mk) (D:Nat→Nat) (nv:Nat) (hK:PG M.cx D nv) (h:Nat) (hh:h < 40) (e0:Nat) (he:M.P.e h=(e0:Int)) (he2:e0 < M.P.c.length) (hD:D e0=0) (hiv:M.iv.length=nv) (hir: ∀ v∈M.iv,Rg v) (h0:0 < nv) (hc:M.P.c.length≤1000000) (hn:M.ans.length≤4611686018427387904) (R:Ms) (hR:R=eU M.cx 500 (dB M.iv e0)):
  Spec Tryz.prog 24 (bi [vr M.P, .v (.int .i64 (h:Int)), .sl M.iv.length (da M.iv), .agg [.v (.int .i64 (M.nm 0)), .v (.int .i64 (M.nm 1)), .v (.int .i64 (M.nm 2)), .v (.int .i64 (M.nm 3)), .v (.int .i64 (M.nm 4)), .v (.int .i64 (M.nm 5)), .v (.int .i64 (M.nm 6)), .v (.int .i64 (M.nm 7)), .v (.int .i64 (M.nm 8))], .sl M.ans.length (da M.ans)] []) (aW (.tup [.agg [.sl R.vars.length (da R.vars), .sl R.acts.length (wo R.acts), .v (.int .i64 (R.steps:Int)), .v (.bool (!R.fin)), .sl (jp (ng R.cov)).length (da (jp (ng R.cov)))], .sl R.asked.length (da R.asked), .v (.bool true)]) []):=by
 have hv:=wc M Fk D nv hK h hh e0 he he2 hD hiv hir h0 hc hn R hR
 refine Spec.ofN Tryz.func24 rfl Tryz.ntmps24 rfl ?_
 refine am (ai (bk (5,0) _ rfl rfl) (ai (bk (8,0) _ rfl rfl) (ai (ay (10,0) aa rfl rfl) (ai (bH _ (rfl:_=AV.v (.slice _ _ _))) (cq rfl (aj (am (ep rfl (ai (aA _ aa rfl (by exact (rfl:_=some [_,_,_]))) ?_)))))))))
 refine ai (bk (17,0) _ rfl rfl) (EH rfl (aj (aq ?_)))
 refine aM (Le.nilB (17,0) 1 (62,0) 3 1 rfl rfl rfl) ?_
 refine an (ai (aP _ aa rfl rfl rfl rfl) (aR rfl (ep rfl (ai (aP _ aa rfl rfl rfl rfl) (ai (aA _ aa rfl (by exact (rfl:_=some [_,_,_,_,_,_,_,_,_,_]))) ?_)))))
 refine bj rfl (ai (pz _ _ (rfl:_=[_]) (rfl:_=[])) ?_)
 refine ai (ef aa [((4,9),(17,0)),((5,9),(62,0)),((2,8),(25,0)),((5,8),(25,1))] ar (hv) ob tr tr rfl rfl ae ae) ?_
 refine ai (ay (14,0) aa rfl rfl) (bO rfl rfl rfl rfl rfl rfl (aj (aq ?_)))
 refine aM (σ':=aB 35 [(10,_),(13,_),(14,_)] [((10,0),_),((17,0),_),((25,0),_),((25,1),_),((14,0),_)] [] []) kp ?_
 refine uc 12 [26,27,28,29,30,31,32,33,34,11,12] [(10,0)] ae ae rfl (rfl:_=[_,_,_,_,_,_,_,_,_,_,_,_]) (rfl:_=[]) ?_
 refine dF (_,[]) (fun τ=> aP _ aa rfl rfl rfl rfl) ?_
 refine dE (rfl:_=[_]) ?_
 refine dF (_,[]) (fun τ=> aD _ (rfl:_=AV.ptr _ _)) ?_
 refine dE (rfl:_=[_,_]) ?_
 refine dF (_,[]) (fun τ=> aS _ rfl rfl) ?_
 refine dE (rfl:_=[_,_,_]) ?_
 refine dF (_,[]) (fun τ=> aK _ aa rfl rfl rfl) ?_
 refine dE (rfl:_=[_,_,_,_]) ?_
 refine dF (_,[]) (fun τ=> aN _ aa rfl rfl (rfl:_=some (AV.ref _ _ _))) ?_
 refine dE (rfl:_=[_,_,_,_,_]) ?_
 refine dF (_,[]) (fun τ=> aD _ (rfl:_=AV.ptr _ _)) ?_
 refine dE (rfl:_=[_,_,_,_,_,_]) ?_
 refine dF (_,[]) (fun τ=> aS _ rfl rfl) ?_
 refine dE (rfl:_=[_,_,_,_,_,_,_]) ?_
 refine dF (_,[]) (fun τ=> aK _ aa rfl rfl rfl) ?_
 refine dE (rfl:_=[_,_,_,_,_,_,_,_]) ?_
 refine dF (_,[]) (fun τ=> aN _ aa rfl rfl (rfl:_=some (AV.v (.bool _)))) ?_
 refine dE (rfl:_=[_,_,_,_,_,_,_,_,_]) ?_
 refine dF (_,[((10,0),_)]) (fun τ=> kO _ _ aa rfl rfl rfl rfl (Nat.le_of_ble_eq_true rfl) rfl) ?_
 refine dE (rfl:_=[_,_,_,_,_,_,_,_,_,_]) ?_
 refine dF (_,[]) (fun τ=> bH _ (rfl:_=AV.ref _ _ _)) ?_
 refine dE (rfl:_=[_,_,_,_,_,_,_,_,_,_,_]) ?_
 refine dF (_,[]) (fun τ=> bH _ (rfl:_=AV.v (.bool _))) ?_
 refine dE (rfl:_=[_,_,_,_,_,_,_,_,_,_,_,_]) ?_
 refine sx ⟨⟨rfl,by kernel_rfl,by kernel_rfl⟩,?_⟩
 exact aj (aC (zX (.inr rfl) rfl (.cellA aa rfl rfl rfl) (.tmp (rfl:_=AV.ref _ _ _)) (.tmp (rfl:_=AV.v _)) (Le.out [] [(25,0),(25,1)] (.tup rfl (aH (.agg rfl (aH .sl (aH (iy rfl rfl (fu _).symm rfl) lz))) (aH (iy rfl rfl (by simp) rfl) lz))) rfl rfl rfl tr trivial)))

theorem sS (w:World) (a b c d e:Int):(Op.equal 57 (.agg #[.int .i64 a, .int .i64 b, .int .i64 c, .int .i64 d, .int .i64 e]) (.agg #[.int .i64 a, .int .i64 b, .int .i64 c, .int .i64 d, .int .i64 e])).run Tryz.prog w= .ok true w:=by
 have he:Tryz.prog.underlying 3=some (.int .i64):=Tryz.underlying3
 have hp: ∀ (cs:Array Value) (j:Nat) (v:Value),cs[j]? =some v→(part 3 cs j).run Tryz.prog w= .ok v w:=by
  intro cs j v hv
  simp [part,isAgg,run_underlying he,hv]
 have e1: ∀ a:Int,(Op.equalIn 9999 3 (.int .i64 a) (.int .i64 a)).run Tryz.prog w= .ok true w:=fun a=> by
  rw [run_equalIn_int w 9998 3 .i64 .i64 a a he];simp
 have h0:=hp #[.int .i64 a, .int .i64 b, .int .i64 c, .int .i64 d, .int .i64 e] 0 (.int .i64 a) rfl
 have h1:=hp #[.int .i64 a, .int .i64 b, .int .i64 c, .int .i64 d, .int .i64 e] 1 (.int .i64 b) rfl
 have h2:=hp #[.int .i64 a, .int .i64 b, .int .i64 c, .int .i64 d, .int .i64 e] 2 (.int .i64 c) rfl
 have h3:=hp #[.int .i64 a, .int .i64 b, .int .i64 c, .int .i64 d, .int .i64 e] 3 (.int .i64 d) rfl
 have h4:=hp #[.int .i64 a, .int .i64 b, .int .i64 c, .int .i64 d, .int .i64 e] 4 (.int .i64 e) rfl
 show (Op.equalIn (9999+1) 57 _ _).run Tryz.prog w=_
 rw [Op.equalIn]
 simp only [Sem.run_bind,run_underlying Tryz.underlying57,Result.andThen_ok]
 simp [Op.eqFields,h0,h1,h2,h3,h4,e1]
section
variable {σ:St} {dd:Option Tmp} {ty:TypeId}
theorem wU {t':TypeId} (x y:Operand) {a b c d e:Int} (hx:σ.eval x= .agg [.v (.int .i64 a), .v (.int .i64 b), .v (.int .i64 c), .v (.int .i64 d), .v (.int .i64 e)]) (hy:σ.eval y= .agg [.v (.int .i64 a), .v (.int .i64 b), .v (.int .i64 c), .v (.int .i64 d), .v (.int .i64 e)]):Stp Tryz.prog dd (.binOp .neq 57 x y t') ty σ (σ.put dd (.v (.bool false))):=by
 refine Bc [.int .i64 a, .int .i64 b, .int .i64 c, .int .i64 d, .int .i64 e] [.int .i64 a, .int .i64 b, .int .i64 c, .int .i64 d, .int .i64 e] hx hy fun o ρ w ho hx hy=> ?_
 have:=sS w a b c d e
 have hg:Tryz.prog.eqGuardType Tryz.prog.depth 57=false:=by kernel_rfl
 simp [execOp,ho,hx,hy,eqGuard,binOp,hg,this,Sem.run]
end
theorem kJ (l:List Ac) (h1:l.length≤1000000):Spec Tryz.prog 34 (bi [.sl l.length (wo l), .sl l.length (wo l)] []) (aW (.v (.bool true)) []):=by
 refine Spec.ofN Tryz.func34 rfl Tryz.ntmps34 rfl ?_
 refine am (cq rfl (aj (aq (am (ep rfl (ai (bG _ aa rfl) (ep rfl (ai (bG _ aa rfl) (ai (bY (r:=false) _ _ rfl rfl (by simp)) ?_)))))))))
 refine aj (aQ rfl rfl (aI (aG fun K4 hK4=> ?_)))
 refine am (ba rfl (aj (au ?_)))
 refine bC (α:=Nat) (fun k=> k≤l.length) 26 [(0,_),(1,_)] [] (fun k=> [(5, .v (.int .i64 (k:Int)))]) (fun k=> []) [] [] (fun k=> l.length - k) 0 ?_ (by
  refine Le.mkJ [] [] rfl ?_ ?_ trivial trivial ?_
  ·exact ⟨(iS rfl),(iS rfl),(cj ag),trivial⟩
  ·exact trivial
  ·kernel_rfl) ?_
 ·omega
 intro k hk
 refine aG fun K6 hK6=> ?_
 refine am (aR rfl (ep rfl (ai (bG _ aa rfl) (ai (bp _ _ rfl rfl rfl) (aj (aV rfl (fun hc14=> ?_) (fun hc14=> ?_)))))))
 ·skip
  have hia:=wR l k ab
  refine bA (hK6 _ ?_)
  clear hK6;try clear K6
  refine aq (au (aq ?_))
  refine aM (σ':=aB 26 [(0,_),(1,_),(5,_)] [] [] []) kp ?_
  refine bE 9 [17,18,19,20,21,22,23,24,25] [] ae ae rfl (aL rfl) (rfl:_=[_,_,_,_,_,_,_,_,_]) (rfl:_=[]) ?_
  refine ap (_,[]) (fun τ=> aD _ (rfl:_=AV.sl _ _)) ?_
  refine eL rfl ?_
  refine ap (_,[]) (fun τ=> aD _ (rfl:_=AV.v (.int _ _))) ?_
  refine eK rfl ?_
  refine ap (_,[]) (fun τ=> bf _ _ aa rfl rfl _ rfl ab (by (simp only [aZ,bm,bl,aZ,fu,bK];omega)) ag) ?_
  refine eM rfl ?_
  refine ap (_,[]) (fun τ=> cg _ aa rfl (by exact hia) rfl) ?_
  refine eP rfl ?_
  refine ap (_,[]) (fun τ=> aD _ (rfl:_=AV.sl _ _)) ?_
  refine fe rfl ?_
  refine ap (_,[]) (fun τ=> aD _ (rfl:_=AV.v (.int _ _))) ?_
  refine fB rfl ?_
  refine ap (_,[]) (fun τ=> bf _ _ aa rfl rfl _ rfl ab (by (simp only [aZ,bm,bl,aZ,fu,bK];omega)) ag) ?_
  refine gy rfl ?_
  refine ap (_,[]) (fun τ=> cg _ aa rfl (by exact hia) rfl) ?_
  refine jS rfl ?_
  refine ap (_,[]) (fun τ=> wU _ _ rfl rfl) ?_
  refine kd rfl (bh ⟨rfl,?_⟩)
  refine aj (aQ rfl rfl (cf (an (aR rfl (ai (bc _ _ rfl rfl (bq ab)) ?_)))))
  refine ba rfl (az (⟨k+1,?_,?_,?_⟩))
  ·omega
  ·skip
   refine Le.mkJ [] [] rfl ?_ ?_ trivial trivial ?_
   ·exact ⟨(iS rfl),(iS rfl),(cj ag),trivial⟩
   ·exact trivial
   ·kernel_rfl
  ·omega
 ·skip
  refine bL (id (hK4 _ ?_))
  clear hK4;try clear K4
  refine am (cq rfl (aj (aC (aY (.inr rfl) rfl (.tmp (rfl:_=AV.v (.bool _))) (Le.out [] [] (ie ?_) rfl rfl rfl trivial trivial)))))
  rfl

theorem la (xs:List Int) (h:xs.length≤1000000):Spec Tryz.prog 30 (bi [.sl xs.length (da xs), .sl xs.length (da xs)] []) (aW (.v (.bool true)) []):=by
 have:=vI xs.length xs.length xs xs rfl rfl ab ab
 rw [decide_eq_true rfl] at this;exact this
def xd (n:Int):Int:=([n % 9 - 4,n, -n,2147483647, -2147483647,1,0]:List Int).getD (n % 7).toNat 0
def gM (a:List Int) (n:Nat):List Int:=(List.range n).map fun i=> xd (cV a i)
theorem sU (a:List Int) (n:Nat):gM a (n+1)=gM a n++[xd (cV a n)]:=by simp [gM,List.range_succ]
theorem kj (a:List Int) (n:Nat):(gM a n).length=n:=by simp [gM]
theorem xh (n:Int) (h0:0≤n):(da [n % 9 - 4,n, -n,2147483647, -2147483647,1,0])[(n % 7).toNat]? =some (.v (.int .i64 (xd n))):=dj _ _ (by simp;omega)

theorem vd (P:Pg) (a:List Int) (G:GL a) (hd:P.d+P.v≤1000):
  Spec Tryz.prog 22 (bi [vr P, .sl a.length (da a)] []) (aW (.sl (gM a (P.d+P.v)).length (da (gM a (P.d+P.v)))) []):=by
 have hpk:=fun i hi=> nI G i hi
 refine Spec.ofN Tryz.func22 rfl Tryz.ntmps22 rfl ?_
 refine am (ai (bk (2,0) _ rfl rfl) (ai (bH _ (rfl:_=AV.v (.slice _ _ _))) (aj (am (ai (nZ (5,0) _ 3 1 rfl rfl) ?_)))))
 refine aj (aG fun K3 hK3=> ?_)
 refine am (ba rfl (aj (au ?_)))
 refine bC (α:=Nat) (fun q=> q≤P.d+P.v) 35 [(1,_),(2,_)] [((2,0),_)] (fun q=> [(6, .v (.int .i64 (q:Int))),(5, .ref (5,0) 0 (gM a q).length)]) (fun q=> [((5,0), .row 3 1 (da (gM a q)))]) [] [] (fun q=> P.d+P.v - q) 0 ?_ (by
  refine Le.mkJ [] [] rfl ?_ ?_ trivial trivial ?_
  ·exact ⟨(iS rfl),(iP rfl),(cj ag),(dc rfl ag),trivial⟩
  ·exact ⟨(cG rfl rfl rfl),(gH rfl rfl rfl ag),trivial⟩
  ·kernel_rfl) ?_
 ·omega
 intro q hq
 have hq0:=hpk q ab
 have hlo:=tF a q
 have hhi:=sV a q
 have hvl:=kj a q
 have hs:=sU a q
 have hl1:(gM a (q+1)).length=(gM a q).length+1:=by rw [hs];simp
 have hvg:=xh (cV a q) hlo
 generalize cV a q=x at hq0 hlo hhi hs hvg
 refine aG fun K5 hK5=> ?_
 refine am (aR rfl (bF rfl rfl rfl (cI rfl rfl rfl (bF rfl rfl rfl (cI rfl rfl rfl (ai (bc (r:=((P.d+P.v:Nat):Int)) _ _ rfl rfl ((bq ab).trans ab)) ?_))))))
 refine ai (bp _ _ rfl rfl rfl) (aj (aV rfl (fun hc14=> ?_) (fun hc14=> ?_)))
 ·skip
  refine bA (hK5 _ ?_)
  clear hK5;try clear K5
  refine aq (au (am (ep rfl (aR rfl (ai (aJ aa al (hq0) rfl rfl) ?_)))))
  refine ba rfl (aj (an (gG rfl (aR rfl (ai (cQ (r:=x % 9) _ _ rfl rfl ab (Int.tmod_eq_emod_of_nonneg ab)) ?_)))))
  refine ai (ca (r:=x % 9 - 4) _ _ rfl rfl (bq ab)) ?_
  refine aR rfl (aR rfl (ai (tJ (r:= -x) _ rfl (bq ab)) ?_))
  refine ai (aU _ _ aa rfl ag (by (simp <;> rfl)) ah rfl) ?_
  refine aR rfl (ai (cQ (r:=(((x % 7).toNat:Nat):Int)) _ _ rfl rfl ab ((Int.tmod_eq_emod_of_nonneg ab).trans ab)) ?_)
  refine ai (bf _ _ aa rfl rfl _ rfl ab (by (simp;done)) (by exact Nat.mul_one _)) ?_
  refine ai (bB _ aa rfl (by exact hvg) rfl) ?_
  refine ai (aU _ _ aa rfl ag (by (simp <;> rfl)) ah rfl) ?_
  refine ai (dg (33,0) _ _ aa rfl rfl (by simp) (.sl rfl) ab rfl ((jM _ _).trans (congrArg da hs.symm)) hl1.symm) ?_
  refine eZ rfl (fT ?_)
  refine aM (σ':=aB 35 [(1,_),(2,_),(5,_),(6,_)] [((2,0),_),((33,0),_)] [] []) kp ?_
  refine an (aR rfl (ai (bc _ _ rfl rfl (bq ab)) ?_))
  refine ba rfl (az (⟨q+1,?_,?_,?_⟩))
  ·omega
  ·skip
   refine Le.mkJ [((5,0),(33,0))] [] rfl ?_ ?_ trivial trivial ?_
   ·exact ⟨(by repeat' (exact Lv.sl)),(dL (id:=(2,0)) rfl),(cj ag),(dc rfl ag),trivial⟩
   ·exact ⟨(fH rfl rfl rfl rfl (by repeat' (first | exact Lv.v | exact Lv.sl | exact br | refine aH ?_ ?_))),(gH rfl rfl rfl ag),trivial⟩
   ·kernel_rfl
  ·omega
 ·skip
  obtain rfl:q=P.d+P.v:=by omega
  refine bL (id (hK3 _ ?_))
  clear hK3;try clear K3
  exact am (gG rfl (eZ rfl (aj (aC (aY (.inr rfl) rfl (.tmp (rfl:_=AV.ref _ _ _)) (Le.out [] [(5,0)] (iy rfl rfl (by simp) rfl) rfl rfl rfl tr trivial))))))
def pS (L:List Int) (i:Nat) (m:Int):Int:=if i < L.length then gj (L.getD i 0) m else 0
theorem qE (L:List Int) (i:Nat) {m:Int} (hm:1≤m):0≤pS L i m:=by
 unfold pS;split
 ·exact mF _ _ ab
 ·omega
theorem qK (L:List Int) (i:Nat) {m:Int} (hm:1≤m):pS L i m < m:=by
 unfold pS;split
 ·exact mA _ _ ab
 ·omega
theorem nG {L:List Int} (h:GL L) (i:Nat) (hi:i≤2000000) (m:Int) (hm:1≤m∧m≤1000):
  Spec Tryz.prog 58 (bi [.sl L.length (da L), .v (.int .i64 (i:Int)), .v (.int .i64 m)] []) (aW (.v (.int .i64 (pS L i m))) []):=by
 have hn:=h.n
 by_cases hk:i < L.length
 ·have hr:=h.r (L.getD i 0) (by rw [List.getD_eq_getElem?_getD,List.getElem?_eq_getElem hk];exact List.getElem_mem hk)
  have ha:=iq (L.getD i 0) m ab ab hr.1 hr.2
  rw [show pS L i m=gj (L.getD i 0) m from if_pos hk]
  refine Spec.ofN Tryz.func58 rfl Tryz.ntmps58 rfl ?_
  refine am (ba rfl (aj (aq (am (aR rfl (ai (bp (r:=false) _ _ rfl rfl (decide_eq_false ab)) ?_))))))
  refine cH rfl (ax rfl rfl (aD _ (rfl:_=AV.v (.int _ _))) (ax rfl rfl (aD _ (rfl:_=AV.sl _ _)) (ax rfl rfl (bG _ aa rfl) (ax rfl rfl (eF (r:=false) _ _ rfl rfl (decide_eq_false ab)) ?_))))
  refine ai (aF _ _ _ rfl (rfl:_=AV.v (.bool _))) (aj (aQ rfl rfl (aI (am (ep rfl (aR rfl (ai (bf _ _ aa rfl rfl _ rfl ab (by (simp only [aZ,bm,bl,aZ,fu,bK];omega)) (by exact Nat.mul_one _)) ?_)))))))
  refine ai (bB _ aa rfl (by exact dj _ _ ab) rfl) ?_
  refine aR rfl (ai (aJ aa al (ha) rfl rfl) ?_)
  exact ba rfl (aj (aC (aY (.inr rfl) rfl (.tmp (rfl:_=AV.v _)) (Le.out [] [] .v rfl rfl rfl trivial trivial))))
 ·rw [show pS L i m=0 from if_neg hk]
  refine Spec.ofN Tryz.func58 rfl Tryz.ntmps58 rfl ?_
  refine am (ba rfl (aj (aq (am (aR rfl (ai (bp (r:=false) _ _ rfl rfl (decide_eq_false ab)) ?_))))))
  refine cH rfl (ax rfl rfl (aD _ (rfl:_=AV.v (.int _ _))) (ax rfl rfl (aD _ (rfl:_=AV.sl _ _)) (ax rfl rfl (bG _ aa rfl) (ax rfl rfl (eF (r:=true) _ _ rfl rfl (decide_eq_true ab)) ?_))))
  exact ai (aF _ _ _ rfl (rfl:_=AV.v (.bool _))) (aj (bD rfl rfl (am (ba rfl (aj (aC (aY (.inr rfl) rfl (.tmp (rfl:_=AV.v _)) (Le.out [] [] .v rfl rfl rfl trivial trivial))))))))
def Ew (b:List Int) (k:Nat):Int:=if k=0 then pS b 0 9 % (1+pS b 1 3) else if k=1 then 1+pS b 1 3 else pS b k 9
def vq (b:List Int) (q k:Nat):Int:=if k < q then pS b k 9 else 0
abbrev L9 (e:Nat→Int):List AV:=[.v (.int .i64 (e 0)), .v (.int .i64 (e 1)), .v (.int .i64 (e 2)), .v (.int .i64 (e 3)), .v (.int .i64 (e 4)), .v (.int .i64 (e 5)), .v (.int .i64 (e 6)), .v (.int .i64 (e 7)), .v (.int .i64 (e 8))]
theorem CV (e:Nat→Int) (h:Nat) (hh:h < 9) (x:Int):fq (L9 e) h [.v (.int .i64 x)]=L9 (oX e h x):=by
 rcases h with _ | _ | _ | _ | _ | _ | _ | _ | _ | h
 all_goals first | rfl | omega
theorem Cc (b:List Int) (q:Nat):oX (vq b q) q (pS b q 9)=vq b (q+1):=by
 funext k
 unfold oX vq
 by_cases h1:k=q
 ·rw [if_pos h1,if_pos ab,h1]
 ·rw [if_neg h1]
  by_cases h2:k < q
  ·rw [if_pos h2,if_pos ab]
  ·rw [if_neg h2,if_neg ab]
theorem td (b:List Int) (G:GL b):
  Spec Tryz.prog 23 (bi [.sl b.length (da b)] []) (aW (.agg (L9 (Ew b))) []):=by
 have h1:=nG G 1 ab 3 ab
 have hlo:=qE b 1 (m:=3) ab
 have hhi:=qK b 1 (m:=3) ab
 have hlo0:=qE b 0 (m:=9) ab
 have hhi0:=qK b 0 (m:=9) ab
 refine Spec.ofN Tryz.func23 rfl Tryz.ntmps23 rfl ?_
 refine am (ai (ay (2,0) aa rfl rfl) (aj (am (ai (ay (3,0) aa rfl rfl) (aj (aG fun K3 hK3=> ?_))))))
 refine am (ba rfl (aj (au ?_)))
 refine bC (α:=Nat) (fun q=> q≤9) 25 [(0,_),(2,_),(3,_)] [((2,0),_)] (fun q=> [(4, .v (.int .i64 (q:Int)))]) (fun q=> [((3,0), .box 30 [.v (.int .i64 (vq b q 0)), .v (.int .i64 (vq b q 1)), .v (.int .i64 (vq b q 2)), .v (.int .i64 (vq b q 3)), .v (.int .i64 (vq b q 4)), .v (.int .i64 (vq b q 5)), .v (.int .i64 (vq b q 6)), .v (.int .i64 (vq b q 7)), .v (.int .i64 (vq b q 8))])]) [] [] (fun q=> 9 - q) 0 ?_ (by
  refine Le.mkJ [] [] rfl ?_ ?_ trivial trivial ?_
  ·exact ⟨(iS rfl),(iP rfl),(iP rfl),(cj ag),trivial⟩
  ·exact ⟨(cG rfl rfl rfl),(fH rfl rfl rfl rfl lz),trivial⟩
  ·kernel_rfl) ?_
 ·omega
 intro q hq
 refine aG fun K5 hK5=> ?_
 refine am (aR rfl (ai (bp _ _ rfl rfl rfl) (aj (aV rfl (fun hc6=> ?_) (fun hc6=> ?_)))))
 ·skip
  have hq9:=nG G q ab 9 ab
  refine bA (hK5 _ ?_)
  clear hK5;try clear K5
  refine aq (au (an (aR rfl (ep rfl (aR rfl (ai (aJ aa al (hq9) rfl rfl) ?_))))))
  refine ai (eS _ _ aa rfl rfl rfl q rfl ab (by exact (Nat.zero_add _).trans (Nat.mul_one _))) ?_
  refine ai (kO _ _ aa rfl rfl rfl rfl (show q+1≤9 by omega) ((CV (vq b q) q ab _).trans (by rw [Cc]))) ?_
  refine fT (an (aR rfl (ai (bc _ _ rfl rfl (bq ab)) ?_)))
  refine ba rfl (az (⟨q+1,?_,?_,?_⟩))
  ·omega
  ·skip
   refine Le.mkJ [] [] rfl ?_ ?_ trivial trivial ?_
   ·exact ⟨(iS rfl),(iP rfl),(iP rfl),(cj ag),trivial⟩
   ·exact ⟨(cG rfl rfl rfl),(fH rfl rfl rfl rfl lz),trivial⟩
   ·kernel_rfl
  ·omega
 ·skip
  obtain rfl:q=9:=by omega
  refine bL (id (hK3 _ ?_))
  clear hK3;try clear K3
  refine am (ep rfl (ai (aJ aa al (h1) rfl rfl) ?_))
  refine ai (bc (r:=1+pS b 1 3) _ _ rfl rfl (bq ab)) ?_
  refine ai (eS _ _ aa rfl rfl rfl 1 rfl ab (by exact (Nat.zero_add _).trans (Nat.mul_one _))) ?_
  refine bO rfl rfl rfl rfl rfl rfl (aj (am (ai (eS _ _ aa rfl rfl rfl 0 rfl ab (by exact (Nat.zero_add _).trans (Nat.mul_one _))) ?_)))
  refine cI rfl rfl rfl (ai (eS _ _ aa rfl rfl rfl 1 rfl ab (by exact (Nat.zero_add _).trans (Nat.mul_one _))) ?_)
  refine cI rfl rfl rfl (ai (cQ (r:=pS b 0 9 % (1+pS b 1 3)) _ _ rfl rfl ab (Int.tmod_eq_emod_of_nonneg hlo0)) ?_)
  refine ai (eS _ _ aa rfl rfl rfl 0 rfl ab (by exact (Nat.zero_add _).trans (Nat.mul_one _))) ?_
  exact bO rfl rfl rfl rfl rfl rfl (aj (am (ai (aP _ aa rfl rfl rfl rfl) (bO rfl rfl rfl rfl rfl rfl (aj (aC (aY (.inr rfl) rfl (.cellA aa rfl rfl rfl) (Le.out [] [] (.agg rfl lz) rfl rfl rfl trivial trivial))))))))

def Cy (p v b r:List Int):Mk:=⟨hP p,gM v ((hP p).d+(hP p).v),(List.range 9).map (Ew b),r.take 30⟩
theorem Eg (b:List Int) (k:Nat):Rg (Ew b k):=by
 have h1:=qE b 1 (m:=3) ab
 have h2:=qK b 1 (m:=3) ab
 have h3:=qE b k (m:=9) ab
 have h4:=qK b k (m:=9) ab
 unfold Ew Rg
 split
 ·have h5:=Int.emod_nonneg (pS b 0 9) (show 1+pS b 1 3≠0 by omega)
  have h6:=Int.emod_lt_of_pos (pS b 0 9) (show 0 < 1+pS b 1 3 by omega)
  omega
 ·split <;> omega
theorem BS {n:Int} (h0:0≤n) (h1:n < 1000000):Rg (xd n):=by
 unfold xd
 refine nn (fun x hx=> ?_) _
 simp only [List.mem_cons,List.not_mem_nil,or_false] at hx
 unfold Rg
 rcases hx with rfl | rfl | rfl | rfl | rfl | rfl | rfl <;> omega
theorem sh (a:List Int) (n:Nat): ∀ x∈gM a n,Rg x:=fun x hx=> by
 obtain ⟨i,_,rfl⟩:=List.mem_map.1 hx
 exact BS (tF a i) (sV a i)
theorem rc (b:List Int): ∀ i,Rg (((List.range 9).map (Ew b)).getD i 0):=fun i=> nn (fun x hx=> by
 obtain ⟨j,_,rfl⟩:=List.mem_map.1 hx
 exact Eg b j) i
structure wn (M:Mk) (D:Nat→Nat) (nv:Nat):Prop where
 pg:PG M.cx D nv
 iv:M.iv.length=nv
 ir: ∀ v∈M.iv,Rg v
 nv:0 < nv
 ent: ∀ h,h < 40→M.P.e h < 0∨ ∃ e0:Nat,M.P.e h=(e0:Int)∧e0 < M.P.c.length∧D e0=0
 c:M.P.c.length≤1000000
theorem xA (p v b r:List Int): ∃ D nv,wn (Cy p v b r) D nv:=by
 by_cases hc:hQ (pm p)=true
 ·have e:hP p=⟨bS (pm p) 0,bX (pm p),2,2⟩:=if_pos hc
  have U:=zp p
  refine ⟨qM (pm p),4,?_,?_,sh _ _,by omega,fun h hh=> ?_,?_⟩
  ·show PG ⟨(hP p).c,(hP p).d,(List.range 9).map (Ew b),r.take 30⟩ _ _
   rw [e]
   exact Cq ab U.ok (rc b)
  ·show (gM v ((hP p).d+(hP p).v)).length=4
   rw [kj,e];rfl
  ·show (hP p).e h < 0∨ ∃ e0:Nat,(hP p).e h=(e0:Int)∧e0 < (hP p).c.length∧_
   rw [e]
   rcases ta (pm p) h with h1 | ⟨e0,_,h1,h2,h3⟩
   ·exact .inl (by show (lI (iQ (pm p) 0)).getD h (-1) < 0;omega)
   ·exact .inr ⟨e0,h1,h2,h3⟩
  ·show (hP p).c.length≤1000000
   rw [e];exact U.c
 ·have e:hP p=tR 3 0:=if_neg hc
  refine ⟨rD,1,?_,?_,sh _ _,by omega,fun h hh=> ?_,?_⟩
  ·show PG ⟨(hP p).c,(hP p).d,(List.range 9).map (Ew b),r.take 30⟩ _ _
   rw [e]
   exact AG (by unfold Rg;omega) (by unfold Rg;omega) (rc b)
  ·show (gM v ((hP p).d+(hP p).v)).length=1
   rw [kj,e];rfl
  ·show (hP p).e h < 0∨ ∃ e0:Nat,(hP p).e h=(e0:Int)∧e0 < (hP p).c.length∧_
   rw [e]
   by_cases h0:h=0
   ·subst h0
    exact .inr ⟨0,rfl,by show 0 < (qT 3 0).length;decide,rfl⟩
   ·exact .inl (by show eB 40 h < 0;unfold eB;rw [if_pos ab];omega)
  ·show (hP p).c.length≤1000000
   rw [e];show (qT 3 0).length≤1000000;decide

set_option maxHeartbeats 1000000 in
theorem vW (M:Mk) (h:Nat) (hh:h < 40) (he:M.P.e h < 0) (h0:0 < M.iv.length) (h1:M.iv.length≤1000):
  Spec Tryz.prog 24 (bi [vr M.P, .v (.int .i64 (h:Int)), .sl M.iv.length (da M.iv), .agg [.v (.int .i64 (M.nm 0)), .v (.int .i64 (M.nm 1)), .v (.int .i64 (M.nm 2)), .v (.int .i64 (M.nm 3)), .v (.int .i64 (M.nm 4)), .v (.int .i64 (M.nm 5)), .v (.int .i64 (M.nm 6)), .v (.int .i64 (M.nm 7)), .v (.int .i64 (M.nm 8))], .sl M.ans.length (da M.ans)] []) (aW (.tup [.agg [.sl M.iv.length (da M.iv), .sl 0 [], .v (.int .i64 0), .v (.bool false), .sl 0 []], .sl 0 [], .v (.bool true)]) []):=by
 have hv:=sE M h hh he h0 h1
 refine Spec.ofN Tryz.func24 rfl Tryz.ntmps24 rfl ?_
 refine am (ai (bk (5,0) _ rfl rfl) (ai (bk (8,0) _ rfl rfl) (ai (ay (10,0) aa rfl rfl) (ai (bH _ (rfl:_=AV.v (.slice _ _ _))) (cq rfl (aj (am (ep rfl (ai (aA _ aa rfl (by exact (rfl:_=some [_,_,_]))) ?_)))))))))
 refine ai (bk (17,0) _ rfl rfl) (EH rfl (aj (aq ?_)))
 refine aM (Le.nilB (17,0) 1 (62,0) 3 1 rfl rfl rfl) ?_
 refine an (ai (aP _ aa rfl rfl rfl rfl) (aR rfl (ep rfl (ai (aP _ aa rfl rfl rfl rfl) (ai (aA _ aa rfl (by exact (rfl:_=some [_,_,_,_,_,_,_,_,_,_]))) ?_)))))
 refine bj rfl (ai (pz _ _ (rfl:_=[_]) (rfl:_=[])) ?_)
 refine ai (ef aa [((4,9),(17,0)),((5,9),(62,0)),((5,8),(25,1))] ar (hv) ob tr tr rfl rfl ae ae) ?_
 refine ai (ay (14,0) aa rfl rfl) (bO rfl rfl rfl rfl rfl rfl (aj (aq ?_)))
 refine aM (σ':=aB 35 [(10,_),(13,_),(14,_)] [((10,0),_),((17,0),_),((25,1),_),((14,0),_)] [] []) kp ?_
 refine uc 12 [26,27,28,29,30,31,32,33,34,11,12] [(10,0)] ae ae rfl (rfl:_=[_,_,_,_,_,_,_,_,_,_,_,_]) (rfl:_=[]) ?_
 refine dF (_,[]) (fun τ=> aP _ aa rfl rfl rfl rfl) ?_
 refine dE (rfl:_=[_]) ?_
 refine dF (_,[]) (fun τ=> aD _ (rfl:_=AV.ptr _ _)) ?_
 refine dE (rfl:_=[_,_]) ?_
 refine dF (_,[]) (fun τ=> aS _ rfl rfl) ?_
 refine dE (rfl:_=[_,_,_]) ?_
 refine dF (_,[]) (fun τ=> aK _ aa rfl rfl rfl) ?_
 refine dE (rfl:_=[_,_,_,_]) ?_
 refine dF (_,[]) (fun τ=> aN _ aa rfl rfl (rfl:_=some (AV.ref _ _ _))) ?_
 refine dE (rfl:_=[_,_,_,_,_]) ?_
 refine dF (_,[]) (fun τ=> aD _ (rfl:_=AV.ptr _ _)) ?_
 refine dE (rfl:_=[_,_,_,_,_,_]) ?_
 refine dF (_,[]) (fun τ=> aS _ rfl rfl) ?_
 refine dE (rfl:_=[_,_,_,_,_,_,_]) ?_
 refine dF (_,[]) (fun τ=> aK _ aa rfl rfl rfl) ?_
 refine dE (rfl:_=[_,_,_,_,_,_,_,_]) ?_
 refine dF (_,[]) (fun τ=> aN _ aa rfl rfl (rfl:_=some (AV.v (.bool _)))) ?_
 refine dE (rfl:_=[_,_,_,_,_,_,_,_,_]) ?_
 refine dF (_,[((10,0),_)]) (fun τ=> kO _ _ aa rfl rfl rfl rfl (Nat.le_of_ble_eq_true rfl) rfl) ?_
 refine dE (rfl:_=[_,_,_,_,_,_,_,_,_,_]) ?_
 refine dF (_,[]) (fun τ=> bH _ (rfl:_=AV.ref _ _ _)) ?_
 refine dE (rfl:_=[_,_,_,_,_,_,_,_,_,_,_]) ?_
 refine dF (_,[]) (fun τ=> bH _ (rfl:_=AV.v (.bool _))) ?_
 refine dE (rfl:_=[_,_,_,_,_,_,_,_,_,_,_,_]) ?_
 refine sx ⟨⟨rfl,by kernel_rfl,by kernel_rfl⟩,?_⟩
 exact aj (aC (zX (.inr rfl) rfl (.cellA aa rfl rfl rfl) (.tmp (rfl:_=AV.ref _ _ _)) (.tmp (rfl:_=AV.v _)) (Le.out [] [(25,1)] (.tup rfl (aH (.agg rfl lz) (aH (iy rfl rfl rfl rfl) lz))) rfl rfl rfl tr trivial)))

def kC (M:Mk) (h:Nat):Ms:=if M.P.e h < 0 then { vars:=M.iv,pc:=0,fin:=true } else eU M.cx 500 (dB M.iv (M.P.e h).toNat)
theorem nh {M:Mk} {h:Nat} (he:M.P.e h < 0):kC M h={ vars:=M.iv,pc:=0,fin:=true }:=if_pos he
theorem lA {M:Mk} {h e0:Nat} (he:M.P.e h=(e0:Int)):kC M h=eU M.cx 500 (dB M.iv e0):=by
  unfold kC;rw [if_neg ab,he];rfl
abbrev Cr (M:Mk) (h:Nat):List AV:=[vr M.P, .v (.int .i64 (h:Int)), .sl M.iv.length (da M.iv), .agg [.v (.int .i64 (M.nm 0)), .v (.int .i64 (M.nm 1)), .v (.int .i64 (M.nm 2)), .v (.int .i64 (M.nm 3)), .v (.int .i64 (M.nm 4)), .v (.int .i64 (M.nm 5)), .v (.int .i64 (M.nm 6)), .v (.int .i64 (M.nm 7)), .v (.int .i64 (M.nm 8))], .sl M.ans.length (da M.ans)]
abbrev Cm (s:Ms):AV:= .tup [.agg [.sl s.vars.length (da s.vars), .sl s.acts.length (wo s.acts), .v (.int .i64 (s.steps:Int)), .v (.bool (!s.fin)), .sl (kz s.cov).length (da (kz s.cov))], .sl s.asked.length (da s.asked), .v (.bool true)]
theorem pA {M:Mk} {D:Nat→Nat} {nv:Nat} (K:wn M D nv) (hn:M.ans.length≤4611686018427387904) (h:Nat) (hh:h < 40):
    Spec Tryz.prog 24 (bi (Cr M h) []) (aW (Cm (kC M h)) []):=by
  have hnv:=K.pg.nv
  have h0:0 < M.iv.length:=by rw [K.iv];exact K.nv
  have h1:M.iv.length≤1000:=by rw [K.iv];omega
  rcases K.ent h hh with he | ⟨e0,he,he2,hD⟩
  · rw [nh he];exact vW M h hh he h0 h1
  · rw [lA he]
    have hr:=rC M D nv K.pg h hh e0 he he2 hD K.iv K.ir K.nv K.c hn _ rfl
    rw [← Dy] at hr
    exact hr
theorem ya {l:List Int} {x y:Int}:y∈jD l x↔y∈l∨y=x:=by
  by_cases hx:x∈l
  · have e:jD l x=l:=by unfold jD;rw [if_pos hx]
    rw [e]
    exact ⟨.inl,fun h=> h.elim id fun e=> e ▸ hx⟩
  · rw [(pE hx).mem_iff,List.mem_append,List.mem_singleton]
theorem rX: ∀ (l:List Nat) (m:List Int) (y:Int),y∈l.foldl (fun m (i:Nat)=> jD m (i:Int)) m↔y∈m∨ ∃ i∈l,y=(i:Int)
  | [],m,y=> by simp
  | i::l,m,y=> by
    rw [List.foldl_cons,rX l,ya]
    constructor
    · rintro ((h | h) | ⟨j,hj,h⟩)
      · exact .inl h
      · exact .inr ⟨i,List.mem_cons_self,h⟩
      · exact .inr ⟨j,List.mem_cons_of_mem _ hj,h⟩
    · rintro (h | ⟨j,hj,h⟩)
      · exact .inl (.inl h)
      · rcases List.mem_cons.1 hj with rfl | hj
        · exact .inl (.inr h)
        · exact .inr ⟨j,hj,h⟩
theorem mem_covS {l:List Nat} {y:Int}:y∈kz l↔ ∃ i∈l,y=(i:Int):=by
  unfold kz;rw [rX];simp
theorem BZ {K:Cx} (k:Nat) {s:Ms} (h:s.fin=false):eU K (k+1) s=eU K k (ej K s):=by rw [eU,if_neg (by rw [h];decide)]
structure Fi (M:Mk) (nv h:Nat) (s:Ms):Prop where
  vl:s.vars.length=nv
  rv: ∀ v∈s.vars,Rg v
  ac: ∀ a∈s.acts,xW M.cx nv a
  sn:co s.acts≤20
  ar: ∀ k∈s.asked,2≤k∧k≤4
  al:s.acts.length≤500
  kl:s.asked.length≤500
  wr:s.vars.take M.P.d=xB (M.iv.take M.P.d) s.acts
  st:s.steps≤500
  sf:s.fin=false→s.steps=500
  cl:(kz s.cov).length≤s.steps
  no:M.P.e h < 0→s={ vars:=M.iv,pc:=0,fin:=true }
  srt:(kz s.cov).Pairwise (· < ·)
  rg: ∀ i∈kz s.cov,∃ j:Nat,i=(j:Int)∧j < M.P.c.length
  en:0≤M.P.e h→M.P.e h∈kz s.cov
  fn:0≤M.P.e h→s.fin=true→ ∃ j:Nat,(j:Int)∈kz s.cov∧ ∃ x,M.P.c[j]? =some x∧x.op= .stop
theorem Ep {M:Mk} {D:Nat→Nat} {nv:Nat} (K:wn M D nv) (h:Nat) (hh:h < 40):Fi M nv h (kC M h):=by
  rcases K.ent h hh with he | ⟨e0,he,he2,hD⟩
  · rw [nh he]
    refine ⟨K.iv,K.ir,fun a ha=> absurd ha (List.not_mem_nil),Nat.zero_le _,fun k hk=> absurd hk (List.not_mem_nil),Nat.zero_le _,Nat.zero_le _,rfl,Nat.zero_le _,(fun h=> nomatch h),Nat.le_refl _,fun _=> rfl, .nil,fun i hi=> absurd hi (List.not_mem_nil),fun h=> ?_,fun h=> ?_⟩
    · omega
    · omega
  · rw [lA he]
    have hat0:=rQ (K:=M.cx) (D:=D) K.iv K.ir he2 hD
    have hat:=Ef K.pg hat0 500
    have hst:=py (K:=M.cx) 500 (dB M.iv e0)
    have hsz:Sz (eU M.cx 500 (dB M.iv e0)):=mf (I:=Sz) (fun s hs _=> tV hs) 500 _ ⟨Nat.le_refl _,Nat.le_refl _,Nat.le_refl _⟩
    have hwr:=AE K.pg hat0 500
    obtain ⟨cl,hcl⟩: ∃ l,(eU M.cx 500 (dB M.iv e0)).cov=e0::l:=by
      obtain ⟨l,hl⟩:=uy (K:=M.cx) 499 (ej M.cx (dB M.iv e0))
      rw [stepM_steps.2] at hl
      have e:=BZ (K:=M.cx) 499 (s:=dB M.iv e0) rfl
      exact ⟨l,(congrArg Ms.cov e).trans hl⟩
    generalize eU M.cx 500 (dB M.iv e0)=s at*
    have hs5:s.steps≤500:=by simpa [dB] using hst.1
    have h2:=hsz.ac
    have h3:=hsz.ak
    have h5:=xq s.cov
    have h6:=hat.cn
    refine ⟨hat.iv.vl,hat.iv.rv,hat.iv.ac,hat.iv.sn,hat.iv.ar,by omega,by omega,hwr,hs5,fun hf=> ?_,by omega,fun h=> by omega,?_,fun i hi=> ?_,fun _=> ?_,fun _ hf=> ?_⟩
    · have:=hst.2 hf;simpa [dB] using this
    · exact nz _ _ .nil
    · obtain ⟨j,hj,rfl⟩:=mem_covS.1 hi
      exact ⟨j,rfl,hat.cl j hj⟩
    · rw [he];exact mem_covS.2 ⟨e0,by rw [hcl];exact List.mem_cons_self,rfl⟩
    · obtain ⟨i,hi,x,hx,ho⟩:=hat.fn hf
      exact ⟨i,mem_covS.2 ⟨i,hi,rfl⟩,x,hx,ho⟩

abbrev EP (l:List Int):Prop:=l.length≤4611686018427387904∧ ∀ x∈l, -9223372036854775808≤x∧x≤9223372036854775807

def mL:Mk:=⟨⟨bS onsL 0,bX onsL,0,1⟩,[0],[0,1,0,0,0,0,0,0,0],[]⟩
def rL:Ms:=eU mL.cx 500 (dB [0] 0)
theorem Cb:rL.vars=[3]:=by kernel_rfl
theorem BW:rL.acts=[{ k:=3,a:=0,b:=3,c:=3,d:=1 }]:=by kernel_rfl
theorem Eo:rL.fin=true:=by kernel_rfl
theorem xw:0 < rL.steps:=of_decide_eq_true ae
theorem Ge:PG mL.cx (qM onsL) 1:=Cq ab usrcL.ok (fun i=> nn (fun x hx=> by
 have hx:x∈[(0:Int),1,0,0,0,0,0,0,0]:=hx
 simp only [List.mem_cons,List.not_mem_nil,or_false] at hx
 unfold Rg;omega) i)
theorem CU:mL.P.e 0=((0:Nat):Int):=by kernel_rfl
theorem Eb:0 < mL.P.c.length:=of_decide_eq_true ae
theorem Dt:qM onsL 0=0:=by kernel_rfl
set_option maxHeartbeats 1000000 in
theorem sX:Spec Tryz.prog 27 (bi [] []) (aW (.v (.bool true)) []):=by
 have hb:=sK usrcL
 rw [wH,if_pos (vJ srcOkL)] at hb
 have hb:Spec Tryz.prog 64 (bi [.v (bt Ey)] []) (aW (.tup [vr mL.P, .v (.int .i64 0)]) []):=hb
 have hrun:=rC mL (qM onsL) 1 Ge 0 ab 0 CU Eb Dt rfl (fun x hx=> by rw [List.mem_singleton.1 hx];unfold Rg;omega) ab usrcL.c (by show 0≤_;omega) rL rfl
 rw [Cb,BW,Eo] at hrun
 have hn:=xw
 have hrun:Spec Tryz.prog 24 (bi [vr mL.P, .v (.int .i64 0), .sl 1 (da [0]), .agg [.v (.int .i64 0), .v (.int .i64 1), .v (.int .i64 0), .v (.int .i64 0), .v (.int .i64 0), .v (.int .i64 0), .v (.int .i64 0), .v (.int .i64 0), .v (.int .i64 0)], .sl 0 []] []) (aW (.tup [.agg [.sl 1 (da [3]), .sl 1 (wo [{ k:=3,a:=0,b:=3,c:=3,d:=1 }]), .v (.int .i64 (rL.steps:Int)), .v (.bool false), .sl (jp (ng rL.cov)).length (da (jp (ng rL.cov)))], .sl rL.asked.length (da rL.asked), .v (.bool true)]) []):=hrun
 generalize rL.steps=n at hn hrun
 generalize jp (ng rL.cov)=cv at hrun
 generalize rL.asked=ak at hrun
 generalize mL.P=P at hb hrun
 refine Spec.ofN Tryz.func27 rfl Tryz.ntmps27 rfl ?_
 refine am (cq rfl (aj (am (ai (aJ aa al (hb) rfl rfl) ?_))))
 refine ai (aD _ (rfl:_=AV.tup _)) (ai (cR _ rfl (rfl:_=some (AV.agg _))) (ai (cR _ rfl (rfl:_=some (AV.v (.int _ _)))) (ai (ay (1,0) aa rfl rfl) (bO rfl rfl rfl rfl rfl rfl (ba rfl (aj (am (ai (ay (3,0) aa rfl rfl) (aj (am ?_))))))))))
 refine ai (eS _ _ aa rfl rfl rfl 1 rfl ab (by exact (Nat.zero_add _).trans (Nat.mul_one _))) ?_
 refine bO rfl rfl rfl rfl rfl rfl (aj (am (ai (aP _ aa rfl rfl rfl rfl) (ai (aU _ _ aa rfl ag (by (simp <;> rfl)) ah rfl) ?_))))
 refine ai (aP _ aa rfl rfl rfl rfl) (ai (aJ aa al (hrun) rfl rfl) ?_)
 refine ai (aD _ (rfl:_=AV.tup _)) (ai (cR _ rfl (rfl:_=some (AV.agg _))) (ai (cR _ rfl (rfl:_=some (AV.sl _ _))) (ai (cR _ rfl (rfl:_=some (AV.v (.bool _)))) (ai (ay (4,0) aa rfl rfl) (bO rfl rfl rfl rfl rfl rfl (jO rfl (cq rfl (aj (aq ?_)))))))))
 refine aM (σ':=aB 48 [(2,_),(4,_),(6,_)] [((4,0),_)] [] []) kp ?_
 refine an (aR rfl (jc rfl rfl rfl (cH rfl (ax rfl rfl (aD _ (rfl:_=AV.v (.bool _))) (ai (aF _ _ _ rfl (rfl:_=AV.v (.bool _))) (cH rfl (ax rfl rfl (aK _ aa rfl rfl rfl) (ax rfl rfl (aN _ aa rfl rfl (rfl:_=some (AV.sl _ _))) (ax rfl rfl (aU _ _ aa rfl ag (by (simp <;> rfl)) ah rfl) ?_)))))))))
 refine ax rfl rfl (aJ aa al (la [3] ah) rfl rfl) ?_
 refine ai (aF _ _ _ rfl (rfl:_=AV.v (.bool _))) (cH rfl (ax rfl rfl (aK _ aa rfl rfl rfl) (ax rfl rfl (aN _ aa rfl rfl (rfl:_=some (AV.sl _ _))) (ax rfl rfl (aA _ aa rfl (by exact (rfl:_=some [_,_,_,_,_]))) ?_))))
 refine ax rfl rfl (aU _ _ aa rfl ag (by (simp <;> rfl)) ah rfl) ?_
 refine ax rfl rfl (aJ aa al (kJ [{ k:=3,a:=0,b:=3,c:=3,d:=1 }] ah) rfl rfl) ?_
 refine ai (aF _ _ _ rfl (rfl:_=AV.v (.bool _))) (cH rfl (ax rfl rfl (aK _ aa rfl rfl rfl) (ax rfl rfl (aN _ aa rfl rfl (rfl:_=some (AV.v (.bool _)))) (ax rfl rfl (cN (r:=true) _ rfl rfl) (ai (aF _ _ _ rfl (rfl:_=AV.v (.bool _))) (cH rfl (ax rfl rfl (aK _ aa rfl rfl rfl) (ax rfl rfl (aN _ aa rfl rfl (rfl:_=some (AV.v (.int _ _)))) (ax rfl rfl (dq (r:=true) _ _ rfl rfl (decide_eq_true ab)) ?_)))))))))
 refine ai (aF _ _ _ rfl (rfl:_=AV.v (.bool _))) (cq rfl (aj (aC (aY (.inr rfl) rfl (.tmp (rfl:_=AV.v (.bool _))) (Le.out [] [] (ie ?_) rfl rfl rfl trivial trivial)))))
 rfl

abbrev PD (M:Mk):AV:= .agg [.v (.int .i64 (M.nm 0)), .v (.int .i64 (M.nm 1)), .v (.int .i64 (M.nm 2)), .v (.int .i64 (M.nm 3)), .v (.int .i64 (M.nm 4)), .v (.int .i64 (M.nm 5)), .v (.int .i64 (M.nm 6)), .v (.int .i64 (M.nm 7)), .v (.int .i64 (M.nm 8))]
theorem zR (p v r:List Int) (hp:EP p) (hv:EP v) (hr:EP r): ∃ (M:Mk) (D:Nat→Nat) (nv:Nat),wn M D nv∧M.ans.length≤4611686018427387904∧
  Spec Tryz.prog 20 (bi [.sl p.length (da p)] []) (aW (vr M.P) [])∧
  Spec Tryz.prog 21 (bi [.sl r.length (da r), .v (.int .i64 20)] []) (aW (.sl M.ans.length (da M.ans)) [])∧
  Spec Tryz.prog 22 (bi [vr M.P, .sl v.length (da v)] []) (aW (.sl M.iv.length (da M.iv)) [])∧
  Spec Tryz.prog 23 (bi [.sl v.length (da v)] []) (aW (PD M) [])∧M.P.d≤M.iv.length∧M.iv.length≤16:=by
 obtain ⟨D,nv,K⟩:=xA p v v (r.take 20)
 obtain ⟨M,hM⟩: ∃ M,M=Cy p v v (r.take 20):=⟨_,rfl⟩
 rw [← hM] at K
 have hnv:=K.pg.nv
 have ha:M.ans=r.take 20:=by rw [hM];show (r.take 20).take 30=_;rw [List.take_take];rfl
 have hl:(r.take 20).length≤20:=by rw [List.length_take];omega
 have hiv:M.iv=gM v (M.P.d+M.P.v):=by rw [hM];rfl
 have hdv:M.P.d+M.P.v=nv:=by have:=K.iv;rw [hiv,kj] at this;exact this
 have hi2:=K.iv
 refine ⟨M,D,nv,K,by rw [ha];omega,by rw [hM];exact uU p hp.1 hp.2,by rw [ha];exact pU r hr.1 20 ab,?_,by rw [hM];exact td v ⟨hv.1,hv.2⟩,by omega,by omega⟩
 rw [hiv];exact vd M.P v ⟨hv.1,hv.2⟩ ab

def ut (f a:List Int) (t:Int) (j:Nat):List Int:=(List.range j).map fun i=> fM f i (a.getD i 0)+a.getD i 0*(t - 3)
theorem gO (f a:List Int) (t:Int) (j:Nat):(ut f a t j).length=j:=by simp [ut]
theorem zo (f a:List Int) (t:Int) (j:Nat):ut f a t j++[fM f j (a.getD j 0)+a.getD j 0*(t - 3)]=ut f a t (j+1):=by simp [ut,List.range_succ]
theorem Ay (f a:List Int) (t:Int) {n j:Nat} (h:j < n):(ut f a t n).getD j 0=fM f j (a.getD j 0)+a.getD j 0*(t - 3):=by
 simp [ut,List.getD_eq_getElem?_getD,h]
abbrev Gs (M:Mk) (l:List Int):Mk:=⟨M.P,M.iv,M.names,l⟩
theorem BH {M:Mk} {t:Int} {h:Nat}:kC (Gs M (ut M.ans (kC M h).asked t (kC M h).asked.length)) h=kC M h:=by
 by_cases he:M.P.e h < 0
 ·rw [nh he];exact nh he
 ·obtain ⟨e0,he0⟩:=Int.eq_ofNat_of_zero_le (show 0≤M.P.e h by omega)
  have e1:=lA (M:=M) he0
  obtain ⟨L,hL⟩: ∃ L,L=ut M.ans (kC M h).asked t (kC M h).asked.length:=⟨_,rfl⟩
  rw [← hL]
  have e2:=lA (M:=Gs M L) he0
  rw [e2,e1]
  refine uJ (K:=M.cx) (K':=(Gs M L).cx) rfl rfl rfl 500 _ fun i a hi=> ?_
  rw [← e1] at hi
  have hl:i < (kC M h).asked.length:=(List.getElem?_eq_some_iff.1 hi).1
  have ha:(kC M h).asked.getD i 0=a:=by rw [List.getD_eq_getElem?_getD,hi];rfl
  show fM L i a=fM M.ans i a
  unfold fM
  rw [hL,Ay _ _ _ hl,ha]
  unfold fM
  rw [Int.add_mul_emod_self_left,Int.emod_emod_of_dvd _ (Int.dvd_refl a)]
theorem Du {M:Mk} {D:Nat→Nat} {nv:Nat} (K:wn M D nv) (l:List Int):wn (Gs M l) D nv:=⟨⟨K.pg.good,K.pg.nv,K.pg.nm⟩,K.iv,K.ir,K.nv,K.ent,K.c⟩
set_option maxHeartbeats 1000000 in
theorem rK (p v r:List Int) (hp:EP p) (hv:EP v) (hr:EP r) (t:Int) (ht: -9223372036854775808≤t∧t≤9223372036854775807):
  Spec Tryz.prog 5 (bi [.sl p.length (da p), .sl v.length (da v), .sl r.length (da r), .v (.int .i64 t)] []) (aW (.v (.bool true)) []):=by
 obtain ⟨M,D,nv,K,hans,h1,h2,h3,h4,hd0,hnv⟩:=zR p v r hp hv hr
 have hB:=fun h hh=> Ep K h hh
 have hR:=fun h hh=> pA K hans h hh
 have hU:=fun l hl h hh=> pA (Du K l) hl h hh
 have hO:=fun h=> BH (M:=M) (t:=gj t 7) (h:=h)
 have hnv2:=K.iv
 have hnv3:=K.pg.nv
 have ha:=iq t 7 ab ab ht.1 ht.2
 have ha1:=mF t 7 ab
 have ha2:=mA t 7 ab
 generalize gj t 7=T at hO ha ha1 ha2
 refine Spec.ofN Tryz.func5 rfl Tryz.ntmps5 rfl ?_
 refine am (cq rfl (aj (am (ep rfl (ai (aJ aa al (h1) rfl rfl) ?_)))))
 refine ai (ay (9,0) aa rfl rfl) (bO rfl rfl rfl rfl rfl rfl (aj (am (ep rfl (ai (aJ aa al (h2) rfl rfl) ?_)))))
 refine jO rfl (aj (am (ai (aP _ aa rfl rfl rfl rfl) (ep rfl (ai (aJ aa al (h3) rfl rfl) ?_)))))
 refine jO rfl (aj (am (ep rfl (ai (aJ aa al (h4) rfl rfl) ?_))))
 refine ai (ay (12,0) aa rfl rfl) (bO rfl rfl rfl rfl rfl rfl (aj (aG fun K6 hK6=> ?_)))
 refine aq ?_
 refine aM (σ':=aB 128 [(3,_),(9,_),(10,_),(11,_),(12,_)] [((9,0),_),((12,0),_)] [] []) kp ?_
 refine an (ba rfl (aj (au ?_)))
 refine bC (α:=Nat) (fun k=> k≤40) 128 [(3,_),(9,_),(10,_),(11,_),(12,_)] [((9,0),_),((12,0),_)] (fun k=> [(13, .v (.int .i64 (k:Int)))]) (fun k=> []) [] [] (fun k=> 40 - k) 0 ?_ (by
  refine Le.mkJ [] [] rfl ?_ ?_ trivial trivial ?_
  ·exact ⟨(iV rfl),(iP rfl),(iS rfl),(iS rfl),(iP rfl),(cj ag),trivial⟩
  ·exact ⟨(cG rfl rfl rfl),(cG rfl rfl rfl),trivial⟩
  ·kernel_rfl) ?_
 ·omega
 intro k hk
 refine aG fun K8 hK8=> ?_
 refine am (aR rfl (ai (bp _ _ rfl rfl rfl) (aj (aV rfl (fun hc32=> ?_) (fun hc32=> ?_)))))
 ·skip
  have ho:=hB k ab
  have hr2:=hR k ab
  have hoo:=hO k
  have hu2:=hU (ut M.ans (kC M k).asked T (kC M k).asked.length) (by rw [gO];have:=ho.kl;omega) k ab
  rw [hoo] at hu2
  clear hoo
  generalize kC M k=s at ho hr2 hu2
  have s1:=ho.vl
  have s2:=ho.al
  have s3:=ho.cl
  have s4:=ho.st
  have s5:=ho.kl
  have s6:=ho.ar
  refine bA (hK8 _ ?_)
  clear hK8;try clear K8
  refine aq (au (am (ai (aP _ aa rfl rfl rfl rfl) (aR rfl (ep rfl (ai (aP _ aa rfl rfl rfl rfl) (ep rfl (ai (aJ aa al (hr2) rfl rfl) ?_))))))))
  refine ai (aD _ (rfl:_=AV.tup _)) (ai (cR _ rfl (rfl:_=some (AV.agg _))) (ai (cR _ rfl (rfl:_=some (AV.sl _ _))) (ai (cR _ rfl (rfl:_=some (AV.v (.bool _)))) (ai (ay (14,0) aa rfl rfl) (bO rfl rfl rfl rfl rfl rfl (jO rfl (cq rfl (aj (aq ?_)))))))))
  refine aM (σ':=aB 128 [(3,_),(9,_),(10,_),(11,_),(12,_),(13,_),(14,_),(15,_),(16,_)] [((9,0),_),((12,0),_),((14,0),_)] [] []) kp ?_
  refine an (ai (bH _ (rfl:_=AV.v (.slice _ _ _))) (aj (aG fun K13 hK13=> ?_)))
  refine am (ba rfl (aj (au ?_)))
  refine aM (Le.nilS 17 (60,0) 3 1 rfl rfl) ?_
  refine bC (α:=Nat) (fun j=> j≤s.asked.length) 128 [(3,_),(9,_),(10,_),(11,_),(12,_),(13,_),(14,_),(15,_),(16,_)] [((9,0),_),((12,0),_),((14,0),_)] (fun j=> [(17, .ref (60,0) 0 j),(18, .v (.int .i64 (j:Int)))]) (fun j=> [((60,0), .row 3 1 (da (ut M.ans s.asked T j)))]) [] [] (fun j=> s.asked.length - j) 0 ?_ (by
   refine Le.mkJ [] [] rfl ?_ ?_ trivial trivial ?_
   ·exact ⟨(iV rfl),(iP rfl),(iS rfl),(iS rfl),(iP rfl),(iV rfl),(iP rfl),(iS rfl),(iV rfl),(dc rfl ag),(cj ag),trivial⟩
   ·exact ⟨(cG rfl rfl rfl),(cG rfl rfl rfl),(cG rfl rfl rfl),(gH rfl rfl rfl ag),trivial⟩
   ·kernel_rfl) ?_
  ·omega
  intro j hj
  refine aG fun K15 hK15=> ?_
  refine am (aR rfl (ep rfl (ai (bG _ aa rfl) (ai (bp _ _ rfl rfl rfl) (aj (aV rfl (fun hc48=> ?_) (fun hc48=> ?_)))))))
  ·skip
   have hm:s.asked.getD j 0∈s.asked:=by rw [List.getD_eq_getElem?_getD,List.getElem?_eq_getElem ab];exact List.getElem_mem _
   have q1:=s6 _ hm
   have q2:=zo M.ans s.asked T j
   have q3:=rB M.ans j (s.asked.getD j 0) ab ab hans
   have q4:=(uj (l:=M.ans) (i:=j) q1).2
   have q5: -12≤s.asked.getD j 0*(T - 3)∧s.asked.getD j 0*(T - 3)≤12:=by
    rcases (show s.asked.getD j 0=2∨s.asked.getD j 0=3∨s.asked.getD j 0=4 by omega) with e | e | e <;> rw [e] <;> omega
   refine bA (hK15 _ ?_)
   clear hK15;try clear K15
   refine aq (au (aq (am (ep rfl (aR rfl (ai (bf _ _ aa rfl rfl _ rfl ab (by (simp only [aZ,bm,bl,aZ,fu,bK,gO];omega)) (by exact Nat.mul_one _)) ?_))))))
   refine ai (bB _ aa rfl (by exact dj _ _ ab) rfl) ?_
   refine ai (bp (r:=false) _ _ rfl rfl (decide_eq_false ab)) ?_
   refine cH rfl (ax rfl rfl (aD _ (rfl:_=AV.sl _ _)) (ax rfl rfl (aD _ (rfl:_=AV.v (.int _ _))) (ax rfl rfl (bf _ _ aa rfl rfl _ rfl ab (by (simp only [aZ,bm,bl,aZ,fu,bK,gO];omega)) (by exact Nat.mul_one _)) ?_)))
   refine ax rfl rfl (bB _ aa rfl (by exact dj _ _ ab) rfl) ?_
   refine ax rfl rfl (dq (r:=false) _ _ rfl rfl (decide_eq_false ab)) ?_
   refine ai (aF _ _ _ rfl (rfl:_=AV.v (.bool _))) (aj (aQ rfl rfl (aI ?_)))
   refine aM (σ':=aB 128 [(3,_),(9,_),(10,_),(11,_),(12,_),(13,_),(14,_),(15,_),(16,_),(17,_),(18,_)] [((9,0),_),((12,0),_),((14,0),_),((60,0),_)] [] []) kp ?_
   refine bE 19 [63,64,65,66,67,68,69,70,71,72,73,74,75,76,77,78,79,80,81] [(60,0),(81,0)] ae ae rfl (aL rfl) (rfl:_=[_,_,_,_,_,_,_,_,_,_,_,_,_,_,_,_,_,_,_]) (rfl:_=[_]) ?_
   refine ap (_,[]) (fun τ=> aD _ (rfl:_=AV.ref _ _ _)) ?_
   refine eL rfl ?_
   refine ap (_,[]) (fun τ=> aD _ (rfl:_=AV.sl _ _)) ?_
   refine eK rfl ?_
   refine ap (_,[]) (fun τ=> aD _ (rfl:_=AV.v (.int _ _))) ?_
   refine eM rfl ?_
   refine ap (_,[]) (fun τ=> aD _ (rfl:_=AV.sl _ _)) ?_
   refine eP rfl ?_
   refine ap (_,[]) (fun τ=> aD _ (rfl:_=AV.v (.int _ _))) ?_
   refine fe rfl ?_
   refine ap (_,[]) (fun τ=> bf _ _ aa rfl rfl _ rfl ab (by (simp only [aZ,bm,bl,aZ,fu,bK,gO];omega)) (by exact Nat.mul_one _)) ?_
   refine fB rfl ?_
   refine ap (_,[]) (fun τ=> bB _ aa rfl (by exact dj _ _ ab) rfl) ?_
   refine gy rfl ?_
   refine ap (_,[]) (fun τ=> (aJ aa al (q3) rfl rfl)) ?_
   refine jS rfl ?_
   refine ap (_,[]) (fun τ=> aD _ (rfl:_=AV.sl _ _)) ?_
   refine kd rfl ?_
   refine ap (_,[]) (fun τ=> aD _ (rfl:_=AV.v (.int _ _))) ?_
   refine fW rfl ?_
   refine ap (_,[]) (fun τ=> bf _ _ aa rfl rfl _ rfl ab (by (simp only [aZ,bm,bl,aZ,fu,bK,gO];omega)) (by exact Nat.mul_one _)) ?_
   refine gA rfl ?_
   refine ap (_,[]) (fun τ=> bB _ aa rfl (by exact dj _ _ ab) rfl) ?_
   refine kA rfl ?_
   refine ap (_,[]) (fun τ=> aD _ (rfl:_=AV.v (.int _ _))) ?_
   refine kP rfl ?_
   refine ap (_,[]) (fun τ=> (aJ aa al (ha) rfl rfl)) ?_
   refine nK rfl ?_
   refine ap (_,[]) (fun τ=> ca _ _ rfl rfl (bq ab)) ?_
   refine tv rfl ?_
   refine ap (_,[]) (fun τ=> tk _ _ rfl rfl (bq ab)) ?_
   refine sG rfl ?_
   refine ap (_,[]) (fun τ=> bc _ _ rfl rfl (bq ab)) ?_
   refine wu rfl ?_
   refine ap (_,[]) (fun τ=> aU _ _ aa rfl ag (by (simp <;> rfl)) ah rfl) ?_
   refine vC rfl ?_
   refine ap (_,[((60,0), .gone),((81,0),_)]) (fun τ=> Dj (81,0) _ _ aa rfl rfl (by rw [aZ,gO];exact Nat.mul_one _) (.sl rfl) ab rfl rfl rfl (by exact (jM _ _).trans (congrArg da q2)) rfl) ?_
   refine va rfl (bh ⟨rfl,?_⟩)
   refine eZ rfl (fT ?_)
   refine aM (σ':=aB 128 [(3,_),(9,_),(10,_),(11,_),(12,_),(13,_),(14,_),(15,_),(16,_),(17,_),(18,_)] [((9,0),_),((12,0),_),((14,0),_),((81,0),_)] [] []) kp ?_
   refine an (aR rfl (ai (bc _ _ rfl rfl (bq ab)) ?_))
   refine ba rfl (az (⟨j+1,?_,?_,?_⟩))
   ·omega
   ·skip
    refine Le.mkJ [((60,0),(81,0))] [] rfl ?_ ?_ trivial trivial ?_
    ·exact ⟨(by repeat' (exact Lv.v)),(dL (id:=(9,0)) rfl),(by repeat' (exact Lv.sl)),(by repeat' (exact Lv.sl)),(dL (id:=(12,0)) rfl),(by repeat' (exact Lv.v)),(dL (id:=(14,0)) rfl),(by repeat' (exact Lv.sl)),(by repeat' (exact Lv.v)),(dc rfl ag),(cj ag),trivial⟩
    ·exact ⟨(fH rfl rfl rfl rfl (by repeat' (first | exact Lv.v | exact Lv.sl | exact br | refine aH ?_ ?_))),(fH rfl rfl rfl rfl (by repeat' (first | exact Lv.v | exact br | refine aH ?_ ?_))),(fH rfl rfl rfl rfl (by repeat' (first | exact Lv.v | exact Lv.sl | exact br | refine aH ?_ ?_))),(gH rfl rfl rfl ag),trivial⟩
    ·kernel_rfl
   ·omega
  ·skip
   obtain rfl:j=s.asked.length:=by omega
   have hu3:Spec Tryz.prog 24 (bi [vr M.P, .v (.int .i64 (k:Int)), .sl M.iv.length (da M.iv),PD M, .sl s.asked.length (da (ut M.ans s.asked T s.asked.length))] []) (aW (Cm s) []):=by
    have h:=hu2
    unfold Cr at h
    rw [show (Gs M (ut M.ans s.asked T s.asked.length)).ans.length=s.asked.length from gO _ _ _ _] at h
    exact h
   refine bL (id (hK13 _ ?_))
   clear hK13;try clear K13
   refine aq ?_
   refine aM (Le.frzS (ys:=da (ut M.ans s.asked T s.asked.length)) 17 (rfl:_=AV.ref _ _ _) rfl rfl (by rw [List.drop_zero,Nat.mul_one,List.take_of_length_le (by rw [aZ,gO];omega)]) (by rw [aZ,gO];omega)) ?_
   refine an (ai (aP _ aa rfl rfl rfl rfl) (aR rfl (ep rfl (ai (aP _ aa rfl rfl rfl rfl) (ep rfl (ai (aJ aa al (hu3) rfl rfl) ?_))))))
   refine ai (aD _ (rfl:_=AV.tup _)) (ai (cR _ rfl (rfl:_=some (AV.agg _))) (ai (cR _ rfl (rfl:_=some (AV.sl _ _))) (ai (cR _ rfl (rfl:_=some (AV.v (.bool _)))) (ai (ay (19,0) aa rfl rfl) (bO rfl rfl rfl rfl rfl rfl (jO rfl (cq rfl (aj (aq ?_)))))))))
   refine aM (σ':=aB 128 [(3,_),(9,_),(10,_),(11,_),(12,_),(13,_),(14,_),(15,_),(16,_),(19,_),(20,_),(21,_)] [((9,0),_),((12,0),_),((14,0),_),((19,0),_)] [] []) kp ?_
   refine an (cH rfl (ai (cN (r:=false) _ rfl rfl) (cH rfl (ax rfl rfl (aD _ (rfl:_=AV.v (.bool _))) (ax rfl rfl (cN (r:=false) _ rfl rfl) (ai (aF _ _ _ rfl (rfl:_=AV.v (.bool _))) (cH rfl (ax rfl rfl (aD _ (rfl:_=AV.sl _ _)) (ax rfl rfl (aD _ (rfl:_=AV.sl _ _)) (ax rfl rfl (aJ aa al (la _ ab) rfl rfl) ?_))))))))))
   refine ax rfl rfl (cN (r:=false) _ rfl rfl) (ai (aF _ _ _ rfl (rfl:_=AV.v (.bool _))) (cH rfl (ax rfl rfl (aK _ aa rfl rfl rfl) (ax rfl rfl (aN _ aa rfl rfl (rfl:_=some (AV.sl _ _))) (ax rfl rfl (aK _ aa rfl rfl rfl) (ax rfl rfl (aN _ aa rfl rfl (rfl:_=some (AV.sl _ _))) (ax rfl rfl (aJ aa al (la _ ab) rfl rfl) ?_)))))))
   refine ax rfl rfl (cN (r:=false) _ rfl rfl) (ai (aF _ _ _ rfl (rfl:_=AV.v (.bool _))) (cH rfl (ax rfl rfl (aK _ aa rfl rfl rfl) (ax rfl rfl (aN _ aa rfl rfl (rfl:_=some (AV.sl _ _))) (ax rfl rfl (aK _ aa rfl rfl rfl) (ax rfl rfl (aN _ aa rfl rfl (rfl:_=some (AV.sl _ _))) (ax rfl rfl (aJ aa al (kJ _ ab) rfl rfl) ?_)))))))
   refine ax rfl rfl (cN (r:=false) _ rfl rfl) (ai (aF _ _ _ rfl (rfl:_=AV.v (.bool _))) (cH rfl (ax rfl rfl (aK _ aa rfl rfl rfl) (ax rfl rfl (aN _ aa rfl rfl (rfl:_=some (AV.v (.int _ _)))) (ax rfl rfl (aK _ aa rfl rfl rfl) (ax rfl rfl (aN _ aa rfl rfl (rfl:_=some (AV.v (.int _ _)))) (ax rfl rfl (bY (r:=false) _ _ rfl rfl (bne_self_eq_false _)) ?_)))))))
   refine ai (aF _ _ _ rfl (rfl:_=AV.v (.bool _))) (aj (aQ rfl rfl (cf ?_)))
   refine aM (σ':=aB 128 [(3,_),(9,_),(10,_),(11,_),(12,_),(13,_)] [((9,0),_),((12,0),_)] [] []) kp ?_
   refine an (aR rfl (ai (bc _ _ rfl rfl (bq ab)) ?_))
   refine ba rfl (az (⟨k+1,?_,?_,?_⟩))
   ·omega
   ·skip
    refine Le.mkJ [] [] rfl ?_ ?_ trivial trivial ?_
    ·exact ⟨(iV rfl),(iP rfl),(iS rfl),(iS rfl),(iP rfl),(cj ag),trivial⟩
    ·exact ⟨(cG rfl rfl rfl),(cG rfl rfl rfl),trivial⟩
    ·kernel_rfl
   ·omega
 ·skip
  refine bL (id (hK6 _ ?_))
  clear hK6;try clear K6
  refine am (ai (aJ aa (by repeat' (exact dK)) (sX) rfl rfl) ?_)
  exact cq rfl (aj (aC (aY (.inr rfl) rfl (.tmp (rfl:_=AV.v _)) (Le.out [] [] .v rfl rfl rfl trivial trivial))))

theorem tf (n0:Nat) (p:List Int) (h0:p.length=n0) (g0:n0≤4611686018427387904) (r0:Rng p) (n1:Nat) (v:List Int) (h1:v.length=n1) (g1:n1≤4611686018427387904) (r1:Rng v)
    (n2:Nat) (b:List Int) (h2:b.length=n2) (g2:n2≤4611686018427387904) (r2:Rng b) (t:Int) (ht: -9223372036854775808≤t∧t≤9223372036854775807):
    Spec Tryz.prog 5 (bi [.sl n0 (da p), .sl n1 (da v), .sl n2 (da b), .v (.int .i64 t)] []) (aW (.v (.bool true)) []):=by
  subst h0;subst h1;subst h2
  exact rK p v b ⟨g0,r0⟩ ⟨g1,r1⟩ ⟨g2,r2⟩ t ht
end Go.Proofs.YtmjnackchaahbaaGreat
