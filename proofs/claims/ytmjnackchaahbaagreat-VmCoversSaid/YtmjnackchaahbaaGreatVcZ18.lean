/- Part 18 of the texts that the walk leans on: the machine, the walks, the plain laws. -/
import Derived.Shelf.SlIterI.Nil
import Derived.Shelf.SortM.Plain
import Derived.Shelf.SortM.SortNone
import Derived.Ground.GgzProg
import Derived.Ground.SlgmProg
import Derived.Test.YtmjnackchaahbaaGreatVcZ17
set_option linter.unusedSimpArgs false
set_option linter.unusedVariables false
namespace Go.Proofs.YtmjnackchaahbaaGreat
open Go.RowKit Go.Maps Go.Sort Go.Shelf

def mD:Go.Shelf.Ren:=⟨fun | 7=> 95 | 10=> 158 | n=> n,fun | 23=> 175 | 26=> 3 | 3=> 176 | 28=> 179 | 0=> 0 | 27=> 178 | 33=> 216 | 4=> 4 | n=> n,fun | n=> n⟩
theorem AI:Go.Proofs.SlLaysZI.n7 Tryz.prog mD:=
  { mixed:=by kernel_rfl,
    f7:=⟨Tryz.f95.name,by decide,Tryz.func95.trans (congrArg some ae)⟩,
    f10:=⟨Tryz.f158.name,by decide,Tryz.func158.trans (congrArg some ae)⟩,
    t0:=Tryz.underlying0,
    a0:=Tryz.isAgg0,
    z0:=Tryz.sizeOf0,
    v0:=Tryz.zeroValue0,
    t4:=Tryz.underlying4,
    a4:=Tryz.isAgg4,
    z4:=Tryz.sizeOf4,
    v4:=Tryz.zeroValue4,
    t23:=Tryz.underlying175,
    a23:=Tryz.isAgg175,
    z23:=Tryz.sizeOf175,
    v23:=Tryz.zeroValue175,
    t26:=Tryz.underlying3,
    a26:=Tryz.isAgg3,
    z26:=Tryz.sizeOf3,
    v26:=Tryz.zeroValue3,
    t27:=Tryz.underlying178,
    a27:=Tryz.isAgg178,
    z27:=Tryz.sizeOf178,
    v27:=Tryz.zeroValue178,
    t28:=Tryz.underlying179,
    a28:=Tryz.isAgg179,
    z28:=Tryz.sizeOf179,
    v28:=Tryz.zeroValue179,
    t33:=Tryz.underlying216,
    a33:=Tryz.isAgg216,
    z33:=Tryz.sizeOf216,
    v33:=Tryz.zeroValue216 }
def kE:Go.Shelf.Ren:=⟨fun | 6=> 94 | 8=> 156 | 9=> 157 | 11=> 191 | 13=> 193 | 12=> 192 | 23=> 219 | 24=> 220 | 14=> 211 | 15=> 212 | 16=> 213 | 17=> 214 | 18=> 215 | 19=> 216 | 20=> 207 | 21=> 217 | 22=> 218 | 25=> 230 | 26=> 231 | 27=> 232 | 28=> 233 | 29=> 234 | 30=> 228 | 31=> 239 | n=> n,fun | 26=> 3 | 28=> 179 | 24=> 22 | 0=> 0 | 3=> 3 | 37=> 243 | 48=> 260 | 50=> 262 | 4=> 4 | 40=> 254 | 39=> 253 | 45=> 193 | 5=> 5 | 9=> 9 | 51=> 265 | 55=> 269 | 57=> 272 | 58=> 273 | 33=> 216 | n=> n,fun | n=> n⟩
theorem uR:Go.Proofs.SlLaysZI.n6 Tryz.prog kE:=
  { mixed:=by kernel_rfl,
    f6:=⟨Tryz.f94.name,by decide,Tryz.func94.trans (congrArg some ae)⟩,
    f8:=⟨Tryz.f156.name,by decide,Tryz.func156.trans (congrArg some ae)⟩,
    f11:=⟨Tryz.f191.name,by decide,Tryz.func191.trans (congrArg some ae)⟩,
    t0:=Tryz.underlying0,
    a0:=Tryz.isAgg0,
    z0:=Tryz.sizeOf0,
    v0:=Tryz.zeroValue0,
    t24:=Tryz.underlying22,
    a24:=Tryz.isAgg22,
    z24:=Tryz.sizeOf22,
    v24:=Tryz.zeroValue22,
    t26:=Tryz.underlying3,
    a26:=Tryz.isAgg3,
    z26:=Tryz.sizeOf3,
    v26:=Tryz.zeroValue3,
    t28:=Tryz.underlying179,
    a28:=Tryz.isAgg179,
    z28:=Tryz.sizeOf179,
    v28:=Tryz.zeroValue179,
    i26:=by kernel_rfl }
def rp:Go.Shelf.Ren:=⟨fun | 5=> 157 | 8=> 193 | 7=> 192 | 19=> 219 | 20=> 220 | 10=> 211 | 11=> 212 | 12=> 213 | 13=> 214 | 14=> 215 | 15=> 216 | 16=> 207 | 17=> 217 | 18=> 218 | 30=> 230 | 31=> 231 | 32=> 232 | 33=> 233 | 34=> 234 | 35=> 228 | 40=> 239 | n=> n,fun | 23=> 22 | 25=> 3 | 3=> 3 | 32=> 243 | 22=> 22 | 0=> 0 | 44=> 260 | 46=> 262 | 4=> 4 | 36=> 254 | 35=> 253 | 41=> 193 | 5=> 5 | 9=> 9 | 53=> 265 | 57=> 269 | 63=> 272 | 64=> 273 | n=> n,fun | n=> n⟩
theorem tS:Go.Proofs.SlLaysM.n5 Tryz.prog rp:=
  { mixed:=by kernel_rfl,
    f5:=⟨Tryz.f157.name,by decide,Tryz.func157.trans (congrArg some ae)⟩,
    f7:=⟨Tryz.f192.name,by decide,Tryz.func192.trans (congrArg some ae)⟩,
    f8:=Tryz.func193.trans (congrArg some ae),
    f10:=⟨Tryz.f211.name,by decide,Tryz.func211.trans (congrArg some ae)⟩,
    f11:=⟨Tryz.f212.name,by decide,Tryz.func212.trans (congrArg some ae)⟩,
    f12:=⟨Tryz.f213.name,by decide,Tryz.func213.trans (congrArg some ae)⟩,
    f13:=⟨Tryz.f214.name,by decide,Tryz.func214.trans (congrArg some ae)⟩,
    f14:=⟨Tryz.f215.name,by decide,Tryz.func215.trans (congrArg some ae)⟩,
    f15:=⟨Tryz.f216.name,by decide,Tryz.func216.trans (congrArg some ae)⟩,
    f16:=⟨Tryz.f207.name,by decide,Tryz.func207.trans (congrArg some ae)⟩,
    f17:=⟨Tryz.f217.name,by decide,Tryz.func217.trans (congrArg some ae)⟩,
    f18:=⟨Tryz.f218.name,by decide,Tryz.func218.trans (congrArg some ae)⟩,
    f19:=Tryz.func219.trans (congrArg some ae),
    f20:=Tryz.func220.trans (congrArg some ae),
    f30:=⟨Tryz.f230.name,by decide,Tryz.func230.trans (congrArg some ae)⟩,
    f31:=Tryz.func231.trans (congrArg some ae),
    f32:=Tryz.func232.trans (congrArg some ae),
    f33:=⟨Tryz.f233.name,by decide,Tryz.func233.trans (congrArg some ae)⟩,
    f34:=⟨Tryz.f234.name,by decide,Tryz.func234.trans (congrArg some ae)⟩,
    f35:=⟨Tryz.f228.name,by decide,Tryz.func228.trans (congrArg some ae)⟩,
    f40:=⟨Tryz.f239.name,by decide,Tryz.func239.trans (congrArg some ae)⟩,
    t0:=Tryz.underlying0,
    a0:=Tryz.isAgg0,
    z0:=Tryz.sizeOf0,
    v0:=Tryz.zeroValue0,
    t3:=Tryz.underlying3,
    a3:=Tryz.isAgg3,
    z3:=Tryz.sizeOf3,
    v3:=Tryz.zeroValue3,
    t4:=Tryz.underlying4,
    a4:=Tryz.isAgg4,
    z4:=Tryz.sizeOf4,
    v4:=Tryz.zeroValue4,
    t5:=Tryz.underlying5,
    a5:=Tryz.isAgg5,
    z5:=Tryz.sizeOf5,
    v5:=Tryz.zeroValue5,
    t9:=Tryz.underlying9,
    a9:=Tryz.isAgg9,
    z9:=Tryz.sizeOf9,
    v9:=Tryz.zeroValue9,
    t22:=Tryz.underlying22,
    a22:=Tryz.isAgg22,
    z22:=Tryz.sizeOf22,
    v22:=Tryz.zeroValue22,
    t23:=Tryz.underlying22,
    a23:=Tryz.isAgg22,
    z23:=Tryz.sizeOf22,
    v23:=Tryz.zeroValue22,
    t25:=Tryz.underlying3,
    a25:=Tryz.isAgg3,
    z25:=Tryz.sizeOf3,
    v25:=Tryz.zeroValue3,
    t32:=Tryz.underlying243,
    a32:=Tryz.isAgg243,
    z32:=Tryz.sizeOf243,
    v32:=Tryz.zeroValue243,
    t35:=Tryz.underlying253,
    a35:=Tryz.isAgg253,
    z35:=Tryz.sizeOf253,
    v35:=Tryz.zeroValue253,
    t36:=Tryz.underlying254,
    a36:=Tryz.isAgg254,
    z36:=Tryz.sizeOf254,
    v36:=Tryz.zeroValue254,
    t41:=Tryz.underlying193,
    a41:=Tryz.isAgg193,
    z41:=Tryz.sizeOf193,
    v41:=Tryz.zeroValue193,
    t44:=Tryz.underlying260,
    a44:=Tryz.isAgg260,
    z44:=Tryz.sizeOf260,
    v44:=Tryz.zeroValue260,
    t46:=Tryz.underlying262,
    a46:=Tryz.isAgg262,
    z46:=Tryz.sizeOf262,
    v46:=Tryz.zeroValue262,
    t53:=Tryz.underlying265,
    a53:=Tryz.isAgg265,
    z53:=Tryz.sizeOf265,
    v53:=Tryz.zeroValue265,
    t57:=Tryz.underlying269,
    a57:=Tryz.isAgg269,
    z57:=Tryz.sizeOf269,
    v57:=Tryz.zeroValue269,
    t63:=Tryz.underlying272,
    a63:=Tryz.isAgg272,
    z63:=Tryz.sizeOf272,
    v63:=Tryz.zeroValue272,
    t64:=Tryz.underlying273,
    a64:=Tryz.isAgg273,
    z64:=Tryz.sizeOf273,
    v64:=Tryz.zeroValue273 }
theorem DJ (m:Nat):AnyZI.SortsIn Tryz.prog kE Fence.wide m:=
  ⟨fun blk off cap ss W hH hblk hsz=> callsIn_wide.2 (AnyM.slices_Sort_int tS blk off cap ss W hH hblk hsz),
   fun p cap W=> callsIn_wide.2 (AnyM.slices_Sort_int_none tS p cap W)⟩
abbrev Ev:Value→Option (DataW Unit×List MemPlace):=fun _=> some (.nil,[])
theorem xU (M:List (Int×Value)):(eb M).map (fun x=> x.key)=M.map fun p=> Value.int .i64 p.1:=by
  apply List.ext_getElem?
  intro j
  rw [List.getElem?_map,ix,List.getElem?_map]
  cases M[j]? <;> rfl
theorem oV (M:List (Int×Value)):(eb M).map (fun x=> x.born)=List.range M.length:=by
  apply List.ext_getElem?
  intro j
  rw [List.getElem?_map,ix]
  by_cases h:j < M.length
  · rw [List.getElem?_eq_getElem h,List.getElem?_range h];rfl
  · rw [List.getElem?_eq_none ab,List.getElem?_eq_none (by simp;omega)];rfl
theorem xI {M:List (Int×Value)} {x:MapEntry} (h:x∈eb M): ∃ p∈M,x.key= .int .i64 p.1:=by
  obtain ⟨j,hj⟩:=List.getElem?_of_mem h
  rw [ix] at hj
  obtain ⟨p,hp,rfl⟩:=Option.map_eq_some_iff.1 hj
  exact ⟨p,List.mem_of_getElem? hp,rfl⟩
theorem CV {a:Int} (h:0≤a∧a≤1000000):(Lit.int .i64 a).wf=true:=by
  have h1:IntKind.i64.min= -9223372036854775808:=by decide
  have h2:IntKind.i64.max=9223372036854775807:=by decide
  simp only [Lit.wf,h1,h2,Bool.and_eq_true,decide_eq_true_eq]
  omega
theorem AS {P:Program} {a:Int} (hk:P.underlying 3=some (.int .i64)) (h:0≤a∧a≤1000000):keyOf P 3 (.int .i64 a)=some (.int .i64 a):=keyOf_int_mk hk (CV h)
theorem FM:Cp:=by
  intro M g b w hlen hnd hrg hlt hcell hb
  have hk3:Tryz.prog.underlying 3=some (.int .i64):=Tryz.underlying3
  have hlen2:(eb M).length=M.length:=xM M
  have hrd: ∀ x∈eb M,∃ p∈M,Go.WideElems.rd Tryz.prog 3 Ev x=some (.int .i64 p.1, .nil)∧x.key= .int .i64 p.1:=by
    intro x hx
    obtain ⟨p,hp,hkx⟩:=xI hx
    refine ⟨p,hp,?_,hkx⟩
    have:=Go.WideElems.rd_mk (P:=Tryz.prog) (k:=3) (R:=Ev) (val:=x.val) (born:=x.born) (AS hk3 (hrg p hp)) (yv:=(.nil,[])) rfl
    rw [← hkx] at this
    exact this
  obtain ⟨E,hE⟩: ∃ E,E=((eb M).map (Go.WideElems.rg Tryz.prog 3 Ev)).foldr DataW.insert []:=⟨_,rfl⟩
  have hperm:E.Perm ((eb M).map (Go.WideElems.rg Tryz.prog 3 Ev)):=by rw [hE];exact Go.WideShapes.sorted_perm _
  have hkeys:((eb M).map (Go.WideElems.rg Tryz.prog 3 Ev)).map (fun p=> Go.intOf p.1)=M.map (·.1):=by
    apply List.ext_getElem?
    intro j
    rw [List.getElem?_map,List.getElem?_map,List.getElem?_map]
    cases hj:(eb M)[j]? with
    | none=>
      rw [ix] at hj
      have:=Option.map_eq_none_iff.1 hj
      rw [this];rfl
    | some x=>
      obtain ⟨q,_,h1,h2⟩:=hrd x (List.mem_of_getElem? hj)
      rw [ix] at hj
      obtain ⟨p,hp,rfl⟩:=Option.map_eq_some_iff.1 hj
      rw [hp]
      simp only [Option.map_some,Go.WideElems.rg_of h1,Go.intOf]
      have h2:Value.int .i64 p.1=Value.int .i64 q.1:=h2
      have h3:p.1=q.1:=by injection h2
      rw [h3]
  have hown:w.ownsMap Tryz.prog 3 Ev b M.length (.map E):=by
    refine ⟨(eb M).toArray,M.length,hb,⟨by simp only [List.size_toArray];rw [hlen2];unfold maxLen;omega,⟨?_,?_,?_⟩,fun x hx=> ?_⟩,by simp only [List.size_toArray];omega,by rw [hE]⟩
    · intro x hx
      have h1:x.born∈(eb M).map (fun x=> x.born):=List.mem_map_of_mem (by simpa using hx)
      rw [oV] at h1
      simpa using h1
    · show ((eb M).map (fun x=> x.born)).Nodup
      rw [oV];exact List.nodup_range
    · show ((eb M).map (fun x=> x.key)).Nodup
      rw [xU]
      have:(M.map fun p=> Value.int .i64 p.1)=(M.map (·.1)).map (fun n=> Value.int .i64 n):=by rw [List.map_map];rfl
      rw [this]
      exact hnd.map (fun n=> Value.int .i64 n) fun a b h e=> h (by cases e;rfl)
    · obtain ⟨p,_,h1,_⟩:=hrd x (by simpa using hx)
      exact ⟨_,h1⟩
  have hsz:Maps.size (.map E:DataW Unit)=M.length:=by
    show E.length=_
    rw [hperm.length_eq,List.length_map,hlen2]
  have hseq:SeqGives Fence.wide 2 Tryz.prog 158 #[.pointer (some ⟨g,0,none⟩)] encZ (fun ss=> ss.Perm (intKeys (.map E:DataW Unit))) (Maps.size (.map E:DataW Unit)) w:=
    AnyZI.keys_gives (ρ:=mD) { AI with } Fence.wide 2 trivial rfl ab g b M.length (.map E) w hlt hcell hown
  have cS:=AnyZI.sorted_in uR Fence.wide 5 trivial trivial trivial trivial rfl ab (DJ _) (enters_of Tryz.func157 ae rfl) 158 #[.pointer (some ⟨g,0,none⟩)] trivial (enters_of Tryz.func158 ae rfl) _ _ (by rw [hsz];unfold maxLen;omega) (by rw [hsz];omega) _ hseq
  change CallsIn _ _ Tryz.prog 94 _ _ _ at cS
  refine ((callsIn_wide (n:=5)).1 cS).mono ?_
  rintro e w' ⟨v,ss,rfl,hS,hrow,_,hbl⟩
  refine ⟨v,ss,rfl,?_,hrow,hbl⟩
  have h1:ss.Perm (E.map fun p=> Go.intOf p.1):=hS
  have h2:=hperm.map (fun p=> Go.intOf p.1)
  rw [hkeys] at h2
  exact h1.trans h2
theorem FC:wF:=wB FM

theorem vg (xs:List Int) (x:Int) (h1:xs.length≤4611686018427387904):
  Spec Tryz.prog 35 (bj [.sl xs.length (dk xs), .v (.int .i64 x)] []) (aX (.v (.bool (decide (x∈xs)))) []):=by
 refine Spec.ofN Tryz.func35 rfl Tryz.ntmps35 rfl ?_
 refine am (cm rfl (aj (aG fun K2 hK2=> ?_)))
 refine am (aZ rfl (aj (au ?_)))
 refine bB (α:=Nat) (fun k=> k≤xs.length∧x∉xs.take k) 18 [(0,_),(1,_)] [] (fun k=> [(5, .v (.int .i64 (k:Int)))]) (fun k=> []) [] [] (fun k=> xs.length - k) 0 ?_ (by
  refine Le.mkJ [] [] rfl ?_ ?_ trivial trivial ?_
  ·exact ⟨(iS rfl),(iV rfl),(ci ag),trivial⟩
  ·exact trivial
  ·kernel_rfl) ?_
 ·exact ⟨Nat.zero_le _,by simp⟩
 intro k hk
 obtain ⟨hk,hnt⟩:=hk
 refine aG fun K4 hK4=> ?_
 refine am (aQ rfl (eN rfl (ai (bF _ aa rfl) (ai (bq _ _ rfl rfl rfl) (aj (aU rfl (fun hc9=> ?_) (fun hc9=> ?_)))))))
 ·skip
  have hkx:k < xs.length:=by omega
  have hgk:xs.getD k 0=xs[k]:=by rw [List.getD_eq_getElem?_getD,List.getElem?_eq_getElem hkx];rfl
  refine bu (hK4 _ ?_)
  clear hK4;try clear K4
  refine aq (au (am (eN rfl (aQ rfl (ai (bf _ _ aa rfl rfl _ rfl ab (by (simp only [ba,bn,bm,ba,gN,bL];omega)) (by exact Nat.mul_one _)) ?_)))))
  refine ai (bC _ aa rfl (by exact dC _ _ ab) rfl) ?_
  refine aQ rfl (ai (bP _ _ rfl rfl rfl) (aj (aU rfl (fun hc17=> ?_) (fun hc17=> ?_))))
  ·skip
   refine am (cm rfl (aj (aC (aY (.inr rfl) rfl (.tmp (rfl:_=AV.v (.bool _))) (Le.out [] [] (gz ?_) rfl rfl rfl trivial trivial)))))
   rw [hgk] at hc17
   exact decide_eq_true (hc17 ▸ List.getElem_mem hkx)
  ·skip
   refine ce (an (aQ rfl (ai (bc _ _ rfl rfl (bp ab)) ?_)))
   refine aZ rfl (az (⟨k+1,?_,?_,?_⟩))
   ·rw [hgk] at hc17
    refine ⟨by omega,?_⟩
    rw [List.take_succ_eq_append_getElem hkx,List.mem_append,List.mem_singleton]
    exact fun h=> h.elim hnt fun e=> hc17 (by rw [e])
   ·skip
    refine Le.mkJ [] [] rfl ?_ ?_ trivial trivial ?_
    ·exact ⟨(iS rfl),(iV rfl),(ci ag),trivial⟩
    ·exact trivial
    ·kernel_rfl
   ·omega
 ·skip
  have hall:x∉xs:=by rwa [List.take_of_length_le ab] at hnt
  refine bK (id (hK2 _ ?_))
  clear hK2;try clear K2
  refine am (cm rfl (aj (aC (aY (.inr rfl) rfl (.tmp (rfl:_=AV.v (.bool _))) (Le.out [] [] (gz ?_) rfl rfl rfl trivial trivial)))))
  exact decide_eq_false hall
def jM (l:List Int) (x:Int):List Int:=if x∈l then l else l.takeWhile (fun y=> decide (y < x))++[x]++l.dropWhile (fun y=> decide (y < x))

def jJ (l:List Nat):List Int:=l.foldl (fun m (i:Nat)=> jM m (i:Int)) []
theorem xw (l:List Int) (x:Int):(jM l x).length≤l.length+1:=by
 unfold jM
 split
 ·omega
 ·have h:=congrArg List.length (List.takeWhile_append_dropWhile (p:=fun y=> decide (y < x)) (l:=l))
  simp only [List.length_append,List.length_cons,List.length_nil] at h ⊢
  omega
theorem ye (l:List Nat):(jJ l).length≤l.length:=by
 have: ∀ (l:List Nat) (m:List Int),(l.foldl (fun m (i:Nat)=> jM m (i:Int)) m).length≤m.length+l.length:=by
  intro l
  induction l with
  | nil=> intro m;simp
  | cons a l ih=> intro m;have h1:=ih (jM m a);have h2:=xw m a;simp only [List.foldl_cons,List.length_cons];omega
 simpa [jJ] using this l []

theorem pi {l:List Int} {x:Int} (h:x∉l):(jM l x).Perm (l++[x]):=by
 unfold jM
 rw [if_neg h]
 have e:=List.takeWhile_append_dropWhile (p:=fun y=> decide (y < x)) (l:=l)
 conv=> rhs;rw [← e]
 rw [List.append_assoc,List.append_assoc]
 exact List.Perm.append_left _ List.perm_append_comm
theorem tY {p:Int→Bool}: ∀ {l:List Int} {y:Int},y∈l.takeWhile p→p y=true
 | a::l,y,h=> by
  rw [List.takeWhile_cons] at h
  split at h
  ·rename_i ha
   rcases List.mem_cons.1 h with rfl | h
   ·exact ha
   ·exact tY h
  ·cases h
theorem xf {l:List Int} {x:Int} (h:l.Pairwise (· < ·)):(jM l x).Pairwise (· < ·):=by
 unfold jM
 split
 ·exact h
 ·rename_i hx
  have e:=List.takeWhile_append_dropWhile (p:=fun y=> decide (y < x)) (l:=l)
  have h':=h
  rw [← e] at h'
  obtain ⟨h1,h2,h3⟩:=List.pairwise_append.1 h'
  have ht: ∀ y∈l.takeWhile (fun y=> decide (y < x)),y < x:=fun y hy=> by
   have:=tY hy
   simpa using this
  have hd: ∀ y∈l.dropWhile (fun y=> decide (y < x)),x < y:=by
   intro y hy
   have hyl:y∈l:=by rw [← e];exact List.mem_append_right _ hy
   have hne:y≠x:=fun e=> hx (e ▸ hyl)
   cases hdw:l.dropWhile (fun y=> decide (y < x)) with
   | nil=> rw [hdw] at hy;cases hy
   | cons a t=>
    have ha: ¬ a < x:=by
     have:=List.head_dropWhile_not (p:=fun y=> decide (y < x)) (l:=l) (by rw [hdw];simp)
     simp only [hdw,List.head_cons] at this
     simpa using this
    rw [hdw] at hy h2
    rcases List.mem_cons.1 hy with rfl | hy
    ·omega
    ·have:=List.rel_of_pairwise_cons h2 hy;omega
  refine List.pairwise_append.2 ⟨List.pairwise_append.2 ⟨h1,by simp,fun a ha b hb=> ?_⟩,h2,fun a ha b hb=> ?_⟩
  ·rw [List.mem_singleton.1 hb];exact ht a ha
  ·rcases List.mem_append.1 ha with ha | ha
   ·exact h3 a ha b hb
   ·rw [List.mem_singleton.1 ha];exact hd b hb
theorem pO: ∀ (l:List Nat) (m:List Int) (M:List (Int×Value)),m.Perm (M.map (·.1))→(l.foldl (fun m (i:Nat)=> jM m (i:Int)) m).Perm ((l.foldl (fun M (i:Nat)=> fV M (i:Int) (.agg #[])) M).map (·.1))
 | [],_,_,h=> h
 | i::l,m,M,h=> pO l _ _ (by
  show (jM m (i:Int)).Perm ((fV M (i:Int) (.agg #[])).map (·.1))
  cases hg:ls M (i:Int) with
  | none=>
   have hn:(i:Int)∉m:=fun hm=> uw hg (h.mem_iff.1 hm)
   have e:fV M (i:Int) (.agg #[])=M++[((i:Int), .agg #[])]:=by unfold fV;rw [hg];rfl
   rw [e,List.map_append]
   exact (pi hn).trans (h.append_right _)
  | some u=>
   have hm:(i:Int)∈m:=h.mem_iff.2 (List.mem_map.2 ⟨_,rJ hg,rfl⟩)
   have e:fV M (i:Int) (.agg #[])=M:=by unfold fV;rw [hg];rfl
   rw [e]
   unfold jM
   rw [if_pos hm];exact h)
theorem oB: ∀ (l:List Nat) (m:List Int),m.Pairwise (· < ·)→(l.foldl (fun m (i:Nat)=> jM m (i:Int)) m).Pairwise (· < ·)
 | [],_,h=> h
 | _::l,_,h=> oB l _ (xf h)
theorem Do (l:List Nat):jJ l=jg (nf l):=by
 have hp:(jJ l).Perm ((nf l).map (·.1)):=pO l [] [] (.refl _)
 have hs:(jJ l).Pairwise (· < ·):=oB l [] .nil
 have h1:=re hp
 have h2:(jJ l).mergeSort (fun x y=> decide (x≤y))=jJ l:=List.mergeSort_of_pairwise (hs.imp fun h=> by simp only [decide_eq_true_eq];omega)
 rw [← h2,h1];rfl

set_option maxHeartbeats 1000000 in
theorem sO (M:Mk) (h:Nat) (hh:h < 40) (he:M.P.e h < 0) (h0:0 < M.iv.length) (h1:M.iv.length≤1000):
  Spec Tryz.prog 59 (be [wu M.P, .v (.int .i64 (h:Int)), .agg [.sl M.iv.length (dk M.iv), .v (.int .i64 (M.nm 0)), .v (.int .i64 (M.nm 1)), .v (.int .i64 (M.nm 2)), .v (.int .i64 (M.nm 3)), .v (.int .i64 (M.nm 4)), .v (.int .i64 (M.nm 5)), .v (.int .i64 (M.nm 6)), .v (.int .i64 (M.nm 7)), .v (.int .i64 (M.nm 8))],DP (4,9)] (zm M.ans [] (5,9))) (bg (.agg [.sl M.iv.length (dk M.iv), .sl 0 [], .v (.int .i64 0), .v (.bool false), .sl 0 []]) (zm M.ans [] (5,8)) [(4,9),(5,8)] [(4,9)]):=by
 have hcl:=nF M.iv ab ab
 have hg:=nc M.P.c.length (inl M.P.c) M.P.e (M.P.d:Int) (M.P.v:Int) h hh
 refine Spec.ofNI Tryz.func59 rfl Tryz.ntmps59 rfl ?_
 refine am (ai (bk (4,0) _ rfl rfl) (ai (bk (6,0) _ rfl rfl) (ai (ay (8,0) aa rfl rfl) (aj (aq (bG 11 [13,14,15,16,17,18,19,20,21,22,23] [(22,0)] ae ae rfl (aL rfl) (rfl:_=[_,_,_,_,_,_,_,_,_,_,_]) (rfl:_=[_,_,_]) ?_))))))
 refine ap (_,[]) (fun τ=> aS _ aa rfl rfl rfl rfl) ?_
 refine eK rfl ?_
 refine ap (_,[]) (fun τ=> aS _ aa rfl rfl rfl rfl) ?_
 refine eJ rfl ?_
 refine ap (_,[]) (fun τ=> aE _ (rfl:_=AV.fn _ _ _)) ?_
 refine eI rfl ?_
 refine ap (_,[]) (fun τ=> aE _ (rfl:_=AV.v (.int _ _))) ?_
 refine eO rfl ?_
 refine ap (_,[]) (fun τ=> aJ _ aa rfl rfl rfl) ?_
 refine fa rfl ?_
 refine ap (_,[]) (fun τ=> ek _ _ aa rfl rfl rfl h rfl ab (by exact congrArg (fun z=> 0+1+z) (Nat.mul_one h))) ?_
 refine fC rfl ?_
 refine ap (_,[]) (fun τ=> aM _ aa rfl rfl (by exact (congrArg (fun z=> (ym M.P.c.length (inl M.P.c) M.P.e (M.P.d:Int) (M.P.v:Int))[z]?) ab).trans hg)) ?_
 refine gv rfl ?_
 refine ap (_,[]) (fun τ=> aJ _ aa rfl rfl rfl) ?_
 refine jI rfl ?_
 refine ap (_,[]) (fun τ=> aM _ aa rfl rfl (rfl:_=some (AV.sl _ _))) ?_
 refine jQ rfl ?_
 refine ap (_,[((22,0),_)]) (fun τ=> (eh aa [((0,8),(22,0))] ar (hcl.toI) trivial tr tr rfl rfl ae ae)) ?_
 refine fW rfl ?_
 refine ap (_,[]) (fun τ=> aA _ aa rfl (by exact (rfl:_=some [AV.ref (22,0) 0 M.iv.length,AV.v (.slice none 0 0),AV.v (.int .i64 0),AV.v (.bool false),AV.v (.slice none 0 0)]))) ?_
 refine gx rfl (bh ⟨rfl,?_⟩)
 refine ai (aA _ aa rfl (by exact (rfl:_=some [_,_,_,_,_,_,_,_,_,_,_,_,_,_,_,_,_,_,_,_,_,_,_,_,_,_,_,_,_,_,_,_,_,_,_,_,_,_,_,_,_,_,_,_,_,_,_,_,_,_,_,_,_,_,_,_,_,_,_,_,_,_,_,_]))) ?_
 refine ai (bk (25,0) _ rfl rfl) (Et rfl (aj (aq (aq ?_))))
 refine aN (σ':=aB 108 [(4,_),(8,_),(9,_)] [((4,9),_),((5,9),_),((4,0),_),((8,0),_),((22,0),_),((25,0),_)] [(4,9),(5,9)] [(4,9)]) kp ?_
 refine an (bi rfl (ai (aT _ rfl rfl) (bE rfl rfl rfl (cK rfl rfl rfl (ai (bq (r:=true) _ _ rfl rfl (decide_eq_true he)) ?_)))))
 exact aj (bD rfl rfl (am (bi rfl (ai (aT _ rfl rfl) (bE rfl rfl rfl (ai (aS _ aa rfl rfl rfl rfl) (bQ rfl rfl rfl rfl rfl rfl (aj (aC (aY (.inr rfl) rfl (.cellA aa rfl rfl rfl) (Le.outI [((5,8),(5,9))] [(22,0)] (.agg rfl (aI (iq rfl rfl (by simp) rfl) lz)) rfl rfl rfl tr ob tr rfl)))))))))))
set_option maxHeartbeats 1000000 in
theorem qY (M:Mk) (D:Nat→Nat) (nv:Nat) (hK:PG M.cx D nv) (h:Nat) (hh:h < 40) (e0:Nat) (he:M.P.e h=(e0:Int)) (he2:e0 < M.P.c.length) (hD:D e0=0) (hiv:M.iv.length=nv) (hir: ∀ v∈M.iv,Rg v) (h0:0 < nv) (hc:M.P.c.length≤1000000) (hn:M.ans.length≤4611686018427387904) (R:Ms) (hR:R=fT M.cx 500 (dF M.iv e0)):
  Spec Tryz.prog 24 (bj [wu M.P, .v (.int .i64 (h:Int)), .sl M.iv.length (dk M.iv), .agg [.v (.int .i64 (M.nm 0)), .v (.int .i64 (M.nm 1)), .v (.int .i64 (M.nm 2)), .v (.int .i64 (M.nm 3)), .v (.int .i64 (M.nm 4)), .v (.int .i64 (M.nm 5)), .v (.int .i64 (M.nm 6)), .v (.int .i64 (M.nm 7)), .v (.int .i64 (M.nm 8))], .sl M.ans.length (dk M.ans)] []) (aX (.tup [.agg [.sl R.vars.length (dk R.vars), .sl R.acts.length (uD R.acts), .v (.int .i64 (R.steps:Int)), .v (.bool (!R.fin)), .sl (jg (nf R.cov)).length (dk (jg (nf R.cov)))], .sl R.asked.length (dk R.asked), .v (.bool true)]) []):=by
 have hv:=vR M FC D nv hK h hh e0 he he2 hD hiv hir h0 hc hn R hR
 refine Spec.ofN Tryz.func24 rfl Tryz.ntmps24 rfl ?_
 refine am (ai (bk (5,0) _ rfl rfl) (ai (bk (8,0) _ rfl rfl) (ai (ay (10,0) aa rfl rfl) (ai (bH _ (rfl:_=AV.v (.slice _ _ _))) (cm rfl (aj (am (eN rfl (ai (aA _ aa rfl (by exact (rfl:_=some [_,_,_]))) ?_)))))))))
 refine ai (bk (17,0) _ rfl rfl) (Et rfl (aj (aq ?_)))
 refine aN (Le.nilB (17,0) 1 (62,0) 3 1 rfl rfl rfl) ?_
 refine an (ai (aS _ aa rfl rfl rfl rfl) (aQ rfl (eN rfl (ai (aS _ aa rfl rfl rfl rfl) (ai (aA _ aa rfl (by exact (rfl:_=some [_,_,_,_,_,_,_,_,_,_]))) ?_)))))
 refine bi rfl (ai (pN _ _ (rfl:_=[_]) (rfl:_=[])) ?_)
 refine ai (eh aa [((4,9),(17,0)),((5,9),(62,0)),((2,8),(25,0)),((5,8),(25,1))] ar (hv) ob tr tr rfl rfl ae ae) ?_
 refine ai (ay (14,0) aa rfl rfl) (bQ rfl rfl rfl rfl rfl rfl (aj (aq ?_)))
 refine aN (σ':=aB 35 [(10,_),(13,_),(14,_)] [((10,0),_),((17,0),_),((25,0),_),((25,1),_),((14,0),_)] [] []) kp ?_
 refine qG 12 [26,27,28,29,30,31,32,33,34,11,12] [(10,0)] ae ae rfl (rfl:_=[_,_,_,_,_,_,_,_,_,_,_,_]) (rfl:_=[]) ?_
 refine ck (_,[]) (fun τ=> aS _ aa rfl rfl rfl rfl) ?_
 refine cj (rfl:_=[_]) ?_
 refine ck (_,[]) (fun τ=> aE _ (rfl:_=AV.ptr _ _)) ?_
 refine cj (rfl:_=[_,_]) ?_
 refine ck (_,[]) (fun τ=> aT _ rfl rfl) ?_
 refine cj (rfl:_=[_,_,_]) ?_
 refine ck (_,[]) (fun τ=> aJ _ aa rfl rfl rfl) ?_
 refine cj (rfl:_=[_,_,_,_]) ?_
 refine ck (_,[]) (fun τ=> aM _ aa rfl rfl (rfl:_=some (AV.ref _ _ _))) ?_
 refine cj (rfl:_=[_,_,_,_,_]) ?_
 refine ck (_,[]) (fun τ=> aE _ (rfl:_=AV.ptr _ _)) ?_
 refine cj (rfl:_=[_,_,_,_,_,_]) ?_
 refine ck (_,[]) (fun τ=> aT _ rfl rfl) ?_
 refine cj (rfl:_=[_,_,_,_,_,_,_]) ?_
 refine ck (_,[]) (fun τ=> aJ _ aa rfl rfl rfl) ?_
 refine cj (rfl:_=[_,_,_,_,_,_,_,_]) ?_
 refine ck (_,[]) (fun τ=> aM _ aa rfl rfl (rfl:_=some (AV.v (.bool _)))) ?_
 refine cj (rfl:_=[_,_,_,_,_,_,_,_,_]) ?_
 refine ck (_,[((10,0),_)]) (fun τ=> jX _ _ aa rfl rfl rfl rfl (Nat.le_of_ble_eq_true rfl) rfl) ?_
 refine cj (rfl:_=[_,_,_,_,_,_,_,_,_,_]) ?_
 refine ck (_,[]) (fun τ=> bH _ (rfl:_=AV.ref _ _ _)) ?_
 refine cj (rfl:_=[_,_,_,_,_,_,_,_,_,_,_]) ?_
 refine ck (_,[]) (fun τ=> bH _ (rfl:_=AV.v (.bool _))) ?_
 refine cj (rfl:_=[_,_,_,_,_,_,_,_,_,_,_,_]) ?_
 refine oq ⟨⟨rfl,by kernel_rfl,by kernel_rfl⟩,?_⟩
 exact aj (aC (BR (.inr rfl) rfl (.cellA aa rfl rfl rfl) (.tmp (rfl:_=AV.ref _ _ _)) (.tmp (rfl:_=AV.v _)) (Le.out [] [(25,0),(25,1)] (.tup rfl (aI (.agg rfl (aI .sl (aI (iq rfl rfl (gN _).symm rfl) lz))) (aI (iq rfl rfl (by simp) rfl) lz))) rfl rfl rfl tr trivial)))

theorem tw (w:World) (a b c d e:Int):(Op.equal 57 (.agg #[.int .i64 a, .int .i64 b, .int .i64 c, .int .i64 d, .int .i64 e]) (.agg #[.int .i64 a, .int .i64 b, .int .i64 c, .int .i64 d, .int .i64 e])).run Tryz.prog w= .ok true w:=by
 have he:Tryz.prog.underlying 3=some (.int .i64):=Tryz.underlying3
 have hp: ∀ (cs:Array Value) (j:Nat) (v:Value),cs[j]? =some v→(part 3 cs j).run Tryz.prog w= .ok v w:=by
  intro cs j v hv
  simp [part,isAgg,run_underlying he,hv]
 have e1: ∀ a:Int,(Op.equalIn 9999 3 (.int .i64 a) (.int .i64 a)).run Tryz.prog w= .ok true w:=fun a=> by
  rw [run_equalIn_int w 9998 3 .i64 .i64 a a he];simp
 have h0:=hp #[.int .i64 a, .int .i64 b, .int .i64 c, .int .i64 d, .int .i64 e] 0 (.int .i64 a) rfl
 have h1:=hp #[.int .i64 a, .int .i64 b, .int .i64 c, .int .i64 d, .int .i64 e] 1 (.int .i64 b) rfl
 have h2:=hp #[.int .i64 a, .int .i64 b, .int .i64 c, .int .i64 d, .int .i64 e] 2 (.int .i64 c) rfl
 have h3:=hp #[.int .i64 a, .int .i64 b, .int .i64 c, .int .i64 d, .int .i64 e] 3 (.int .i64 d) rfl
 have h4:=hp #[.int .i64 a, .int .i64 b, .int .i64 c, .int .i64 d, .int .i64 e] 4 (.int .i64 e) rfl
 show (Op.equalIn (9999+1) 57 _ _).run Tryz.prog w=_
 rw [Op.equalIn]
 simp only [Sem.run_bind,run_underlying Tryz.underlying57,Result.andThen_ok]
 simp [Op.eqFields,h0,h1,h2,h3,h4,e1]
section
variable {σ:St} {dd:Option Tmp} {ty:TypeId}
theorem xN {t':TypeId} (x y:Operand) {a b c d e:Int} (hx:σ.eval x= .agg [.v (.int .i64 a), .v (.int .i64 b), .v (.int .i64 c), .v (.int .i64 d), .v (.int .i64 e)]) (hy:σ.eval y= .agg [.v (.int .i64 a), .v (.int .i64 b), .v (.int .i64 c), .v (.int .i64 d), .v (.int .i64 e)]):Stp Tryz.prog dd (.binOp .neq 57 x y t') ty σ (σ.put dd (.v (.bool false))):=by
 refine Ar [.int .i64 a, .int .i64 b, .int .i64 c, .int .i64 d, .int .i64 e] [.int .i64 a, .int .i64 b, .int .i64 c, .int .i64 d, .int .i64 e] hx hy fun o ρ w ho hx hy=> ?_
 have:=tw w a b c d e
 have hg:Tryz.prog.eqGuardType Tryz.prog.depth 57=false:=by kernel_rfl
 simp [execOp,ho,hx,hy,eqGuard,binOp,hg,this,Sem.run]
end
theorem oS (l:List Ac) (h1:l.length≤1000000):Spec Tryz.prog 34 (bj [.sl l.length (uD l), .sl l.length (uD l)] []) (aX (.v (.bool true)) []):=by
 refine Spec.ofN Tryz.func34 rfl Tryz.ntmps34 rfl ?_
 refine am (cm rfl (aj (aq (am (eN rfl (ai (bF _ aa rfl) (eN rfl (ai (bF _ aa rfl) (ai (bX (r:=false) _ _ rfl rfl (by simp)) ?_)))))))))
 refine aj (aP rfl rfl (aH (aG fun K4 hK4=> ?_)))
 refine am (aZ rfl (aj (au ?_)))
 refine bB (α:=Nat) (fun k=> k≤l.length) 26 [(0,_),(1,_)] [] (fun k=> [(5, .v (.int .i64 (k:Int)))]) (fun k=> []) [] [] (fun k=> l.length - k) 0 ?_ (by
  refine Le.mkJ [] [] rfl ?_ ?_ trivial trivial ?_
  ·exact ⟨(iS rfl),(iS rfl),(ci ag),trivial⟩
  ·exact trivial
  ·kernel_rfl) ?_
 ·omega
 intro k hk
 refine aG fun K6 hK6=> ?_
 refine am (aQ rfl (eN rfl (ai (bF _ aa rfl) (ai (bq _ _ rfl rfl rfl) (aj (aU rfl (fun hc14=> ?_) (fun hc14=> ?_)))))))
 ·skip
  have hia:=yo l k ab
  refine bu (hK6 _ ?_)
  clear hK6;try clear K6
  refine aq (au (aq ?_))
  refine aN (σ':=aB 26 [(0,_),(1,_),(5,_)] [] [] []) kp ?_
  refine bG 9 [17,18,19,20,21,22,23,24,25] [] ae ae rfl (aL rfl) (rfl:_=[_,_,_,_,_,_,_,_,_]) (rfl:_=[]) ?_
  refine ap (_,[]) (fun τ=> aE _ (rfl:_=AV.sl _ _)) ?_
  refine eK rfl ?_
  refine ap (_,[]) (fun τ=> aE _ (rfl:_=AV.v (.int _ _))) ?_
  refine eJ rfl ?_
  refine ap (_,[]) (fun τ=> bf _ _ aa rfl rfl _ rfl ab (by (simp only [ba,bn,bm,ba,gN,bL];omega)) ag) ?_
  refine eI rfl ?_
  refine ap (_,[]) (fun τ=> cg _ aa rfl (by exact hia) rfl) ?_
  refine eO rfl ?_
  refine ap (_,[]) (fun τ=> aE _ (rfl:_=AV.sl _ _)) ?_
  refine fa rfl ?_
  refine ap (_,[]) (fun τ=> aE _ (rfl:_=AV.v (.int _ _))) ?_
  refine fC rfl ?_
  refine ap (_,[]) (fun τ=> bf _ _ aa rfl rfl _ rfl ab (by (simp only [ba,bn,bm,ba,gN,bL];omega)) ag) ?_
  refine gv rfl ?_
  refine ap (_,[]) (fun τ=> cg _ aa rfl (by exact hia) rfl) ?_
  refine jI rfl ?_
  refine ap (_,[]) (fun τ=> xN _ _ rfl rfl) ?_
  refine jQ rfl (bh ⟨rfl,?_⟩)
  refine aj (aP rfl rfl (ce (an (aQ rfl (ai (bc _ _ rfl rfl (bp ab)) ?_)))))
  refine aZ rfl (az (⟨k+1,?_,?_,?_⟩))
  ·omega
  ·skip
   refine Le.mkJ [] [] rfl ?_ ?_ trivial trivial ?_
   ·exact ⟨(iS rfl),(iS rfl),(ci ag),trivial⟩
   ·exact trivial
   ·kernel_rfl
  ·omega
 ·skip
  refine bK (id (hK4 _ ?_))
  clear hK4;try clear K4
  refine am (cm rfl (aj (aC (aY (.inr rfl) rfl (.tmp (rfl:_=AV.v (.bool _))) (Le.out [] [] (gz ?_) rfl rfl rfl trivial trivial)))))
  rfl

theorem tB (xs:List Int) (h:xs.length≤1000000):Spec Tryz.prog 30 (bj [.sl xs.length (dk xs), .sl xs.length (dk xs)] []) (aX (.v (.bool true)) []):=by
 have:=vf xs.length xs.length xs xs rfl rfl ab ab
 rw [decide_eq_true rfl] at this;exact this
def xZ (n:Int):Int:=([n % 9 - 4,n, -n,2147483647, -2147483647,1,0]:List Int).getD (n % 7).toNat 0
def gK (a:List Int) (n:Nat):List Int:=(List.range n).map fun i=> xZ (cV a i)
theorem sF (a:List Int) (n:Nat):gK a (n+1)=gK a n++[xZ (cV a n)]:=by simp [gK,List.range_succ]
theorem ks (a:List Int) (n:Nat):(gK a n).length=n:=by simp [gK]
theorem wZ (n:Int) (h0:0≤n):(dk [n % 9 - 4,n, -n,2147483647, -2147483647,1,0])[(n % 7).toNat]? =some (.v (.int .i64 (xZ n))):=dC _ _ (by simp;omega)

theorem wj (P:Pg) (a:List Int) (G:GL a) (hd:P.d+P.v≤1000):
  Spec Tryz.prog 22 (bj [wu P, .sl a.length (dk a)] []) (aX (.sl (gK a (P.d+P.v)).length (dk (gK a (P.d+P.v)))) []):=by
 have hpk:=fun i hi=> ol G i hi
 refine Spec.ofN Tryz.func22 rfl Tryz.ntmps22 rfl ?_
 refine am (ai (bk (2,0) _ rfl rfl) (ai (bH _ (rfl:_=AV.v (.slice _ _ _))) (aj (am (ai (oF (5,0) _ 3 1 rfl rfl) ?_)))))
 refine aj (aG fun K3 hK3=> ?_)
 refine am (aZ rfl (aj (au ?_)))
 refine bB (α:=Nat) (fun q=> q≤P.d+P.v) 35 [(1,_),(2,_)] [((2,0),_)] (fun q=> [(6, .v (.int .i64 (q:Int))),(5, .ref (5,0) 0 (gK a q).length)]) (fun q=> [((5,0), .row 3 1 (dk (gK a q)))]) [] [] (fun q=> P.d+P.v - q) 0 ?_ (by
  refine Le.mkJ [] [] rfl ?_ ?_ trivial trivial ?_
  ·exact ⟨(iS rfl),(iP rfl),(ci ag),(dh rfl ag),trivial⟩
  ·exact ⟨(cD rfl rfl rfl),(gJ rfl rfl rfl ag),trivial⟩
  ·kernel_rfl) ?_
 ·omega
 intro q hq
 have hq0:=hpk q ab
 have hlo:=sL a q
 have hhi:=sV a q
 have hvl:=ks a q
 have hs:=sF a q
 have hl1:(gK a (q+1)).length=(gK a q).length+1:=by rw [hs];simp
 have hvg:=wZ (cV a q) hlo
 generalize cV a q=x at hq0 hlo hhi hs hvg
 refine aG fun K5 hK5=> ?_
 refine am (aQ rfl (bE rfl rfl rfl (cK rfl rfl rfl (bE rfl rfl rfl (cK rfl rfl rfl (ai (bc (r:=((P.d+P.v:Nat):Int)) _ _ rfl rfl ((bp ab).trans ab)) ?_))))))
 refine ai (bq _ _ rfl rfl rfl) (aj (aU rfl (fun hc14=> ?_) (fun hc14=> ?_)))
 ·skip
  refine bu (hK5 _ ?_)
  clear hK5;try clear K5
  refine aq (au (am (eN rfl (aQ rfl (ai (aK aa al (hq0) rfl rfl) ?_)))))
  refine aZ rfl (aj (an (gD rfl (aQ rfl (ai (cZ (r:=x % 9) _ _ rfl rfl ab (Int.tmod_eq_emod_of_nonneg ab)) ?_)))))
  refine ai (ca (r:=x % 9 - 4) _ _ rfl rfl (bp ab)) ?_
  refine aQ rfl (aQ rfl (ai (sA (r:= -x) _ rfl (bp ab)) ?_))
  refine ai (aW _ _ aa rfl ag (by (simp <;> rfl)) ah rfl) ?_
  refine aQ rfl (ai (cZ (r:=(((x % 7).toNat:Nat):Int)) _ _ rfl rfl ab ((Int.tmod_eq_emod_of_nonneg ab).trans ab)) ?_)
  refine ai (bf _ _ aa rfl rfl _ rfl ab (by (simp;done)) (by exact Nat.mul_one _)) ?_
  refine ai (bC _ aa rfl (by exact hvg) rfl) ?_
  refine ai (aW _ _ aa rfl ag (by (simp <;> rfl)) ah rfl) ?_
  refine ai (dq (33,0) _ _ aa rfl rfl (by simp) (.sl rfl) ab rfl ((lC _ _).trans (congrArg dk hs.symm)) hl1.symm) ?_
  refine eZ rfl (fc ?_)
  refine aN (σ':=aB 35 [(1,_),(2,_),(5,_),(6,_)] [((2,0),_),((33,0),_)] [] []) kp ?_
  refine an (aQ rfl (ai (bc _ _ rfl rfl (bp ab)) ?_))
  refine aZ rfl (az (⟨q+1,?_,?_,?_⟩))
  ·omega
  ·skip
   refine Le.mkJ [((5,0),(33,0))] [] rfl ?_ ?_ trivial trivial ?_
   ·exact ⟨(by repeat' (exact Lv.sl)),(dX (id:=(2,0)) rfl),(ci ag),(dh rfl ag),trivial⟩
   ·exact ⟨(fM rfl rfl rfl rfl (by repeat' (first | exact Lv.v | exact Lv.sl | exact bv | refine aI ?_ ?_))),(gJ rfl rfl rfl ag),trivial⟩
   ·kernel_rfl
  ·omega
 ·skip
  obtain rfl:q=P.d+P.v:=by omega
  refine bK (id (hK3 _ ?_))
  clear hK3;try clear K3
  exact am (gD rfl (eZ rfl (aj (aC (aY (.inr rfl) rfl (.tmp (rfl:_=AV.ref _ _ _)) (Le.out [] [(5,0)] (iq rfl rfl (by simp) rfl) rfl rfl rfl tr trivial))))))
def pv (L:List Int) (i:Nat) (m:Int):Int:=if i < L.length then hQ (L.getD i 0) m else 0
theorem pT (L:List Int) (i:Nat) {m:Int} (hm:1≤m):0≤pv L i m:=by
 unfold pv;split
 ·exact pq _ _ ab
 ·omega
theorem pZ (L:List Int) (i:Nat) {m:Int} (hm:1≤m):pv L i m < m:=by
 unfold pv;split
 ·exact pA _ _ ab
 ·omega
theorem nr {L:List Int} (h:GL L) (i:Nat) (hi:i≤2000000) (m:Int) (hm:1≤m∧m≤1000):
  Spec Tryz.prog 58 (bj [.sl L.length (dk L), .v (.int .i64 (i:Int)), .v (.int .i64 m)] []) (aX (.v (.int .i64 (pv L i m))) []):=by
 have hn:=h.n
 by_cases hk:i < L.length
 ·have hr:=h.r (L.getD i 0) (by rw [List.getD_eq_getElem?_getD,List.getElem?_eq_getElem hk];exact List.getElem_mem hk)
  have ha:=jD (L.getD i 0) m ab ab hr.1 hr.2
  rw [show pv L i m=hQ (L.getD i 0) m from if_pos hk]
  refine Spec.ofN Tryz.func58 rfl Tryz.ntmps58 rfl ?_
  refine am (aZ rfl (aj (aq (am (aQ rfl (ai (bq (r:=false) _ _ rfl rfl (decide_eq_false ab)) ?_))))))
  refine cL rfl (ax rfl rfl (aE _ (rfl:_=AV.v (.int _ _))) (ax rfl rfl (aE _ (rfl:_=AV.sl _ _)) (ax rfl rfl (bF _ aa rfl) (ax rfl rfl (eD (r:=false) _ _ rfl rfl (decide_eq_false ab)) ?_))))
  refine ai (aD _ _ _ rfl (rfl:_=AV.v (.bool _))) (aj (aP rfl rfl (aH (am (eN rfl (aQ rfl (ai (bf _ _ aa rfl rfl _ rfl ab (by (simp only [ba,bn,bm,ba,gN,bL];omega)) (by exact Nat.mul_one _)) ?_)))))))
  refine ai (bC _ aa rfl (by exact dC _ _ ab) rfl) ?_
  refine aQ rfl (ai (aK aa al (ha) rfl rfl) ?_)
  exact aZ rfl (aj (aC (aY (.inr rfl) rfl (.tmp (rfl:_=AV.v _)) (Le.out [] [] .v rfl rfl rfl trivial trivial))))
 ·rw [show pv L i m=0 from if_neg hk]
  refine Spec.ofN Tryz.func58 rfl Tryz.ntmps58 rfl ?_
  refine am (aZ rfl (aj (aq (am (aQ rfl (ai (bq (r:=false) _ _ rfl rfl (decide_eq_false ab)) ?_))))))
  refine cL rfl (ax rfl rfl (aE _ (rfl:_=AV.v (.int _ _))) (ax rfl rfl (aE _ (rfl:_=AV.sl _ _)) (ax rfl rfl (bF _ aa rfl) (ax rfl rfl (eD (r:=true) _ _ rfl rfl (decide_eq_true ab)) ?_))))
  exact ai (aD _ _ _ rfl (rfl:_=AV.v (.bool _))) (aj (bD rfl rfl (am (aZ rfl (aj (aC (aY (.inr rfl) rfl (.tmp (rfl:_=AV.v _)) (Le.out [] [] .v rfl rfl rfl trivial trivial))))))))
def Dx (b:List Int) (k:Nat):Int:=if k=0 then pv b 0 9 % (1+pv b 1 3) else if k=1 then 1+pv b 1 3 else pv b k 9
def wd (b:List Int) (q k:Nat):Int:=if k < q then pv b k 9 else 0
abbrev L9 (e:Nat→Int):List AV:=[.v (.int .i64 (e 0)), .v (.int .i64 (e 1)), .v (.int .i64 (e 2)), .v (.int .i64 (e 3)), .v (.int .i64 (e 4)), .v (.int .i64 (e 5)), .v (.int .i64 (e 6)), .v (.int .i64 (e 7)), .v (.int .i64 (e 8))]
theorem CM (e:Nat→Int) (h:Nat) (hh:h < 9) (x:Int):fj (L9 e) h [.v (.int .i64 x)]=L9 (oQ e h x):=by
 rcases h with _ | _ | _ | _ | _ | _ | _ | _ | _ | h
 all_goals first | rfl | omega
theorem Bt (b:List Int) (q:Nat):oQ (wd b q) q (pv b q 9)=wd b (q+1):=by
 funext k
 unfold oQ wd
 by_cases h1:k=q
 ·rw [if_pos h1,if_pos ab,h1]
 ·rw [if_neg h1]
  by_cases h2:k < q
  ·rw [if_pos h2,if_pos ab]
  ·rw [if_neg h2,if_neg ab]
theorem te (b:List Int) (G:GL b):
  Spec Tryz.prog 23 (bj [.sl b.length (dk b)] []) (aX (.agg (L9 (Dx b))) []):=by
 have h1:=nr G 1 ab 3 ab
 have hlo:=pT b 1 (m:=3) ab
 have hhi:=pZ b 1 (m:=3) ab
 have hlo0:=pT b 0 (m:=9) ab
 have hhi0:=pZ b 0 (m:=9) ab
 refine Spec.ofN Tryz.func23 rfl Tryz.ntmps23 rfl ?_
 refine am (ai (ay (2,0) aa rfl rfl) (aj (am (ai (ay (3,0) aa rfl rfl) (aj (aG fun K3 hK3=> ?_))))))
 refine am (aZ rfl (aj (au ?_)))
 refine bB (α:=Nat) (fun q=> q≤9) 25 [(0,_),(2,_),(3,_)] [((2,0),_)] (fun q=> [(4, .v (.int .i64 (q:Int)))]) (fun q=> [((3,0), .box 30 [.v (.int .i64 (wd b q 0)), .v (.int .i64 (wd b q 1)), .v (.int .i64 (wd b q 2)), .v (.int .i64 (wd b q 3)), .v (.int .i64 (wd b q 4)), .v (.int .i64 (wd b q 5)), .v (.int .i64 (wd b q 6)), .v (.int .i64 (wd b q 7)), .v (.int .i64 (wd b q 8))])]) [] [] (fun q=> 9 - q) 0 ?_ (by
  refine Le.mkJ [] [] rfl ?_ ?_ trivial trivial ?_
  ·exact ⟨(iS rfl),(iP rfl),(iP rfl),(ci ag),trivial⟩
  ·exact ⟨(cD rfl rfl rfl),(fM rfl rfl rfl rfl lz),trivial⟩
  ·kernel_rfl) ?_
 ·omega
 intro q hq
 refine aG fun K5 hK5=> ?_
 refine am (aQ rfl (ai (bq _ _ rfl rfl rfl) (aj (aU rfl (fun hc6=> ?_) (fun hc6=> ?_)))))
 ·skip
  have hq9:=nr G q ab 9 ab
  refine bu (hK5 _ ?_)
  clear hK5;try clear K5
  refine aq (au (an (aQ rfl (eN rfl (aQ rfl (ai (aK aa al (hq9) rfl rfl) ?_))))))
  refine ai (ek _ _ aa rfl rfl rfl q rfl ab (by exact (Nat.zero_add _).trans (Nat.mul_one _))) ?_
  refine ai (jX _ _ aa rfl rfl rfl rfl (show q+1≤9 by omega) ((CM (wd b q) q ab _).trans (by rw [Bt]))) ?_
  refine fc (an (aQ rfl (ai (bc _ _ rfl rfl (bp ab)) ?_)))
  refine aZ rfl (az (⟨q+1,?_,?_,?_⟩))
  ·omega
  ·skip
   refine Le.mkJ [] [] rfl ?_ ?_ trivial trivial ?_
   ·exact ⟨(iS rfl),(iP rfl),(iP rfl),(ci ag),trivial⟩
   ·exact ⟨(cD rfl rfl rfl),(fM rfl rfl rfl rfl lz),trivial⟩
   ·kernel_rfl
  ·omega
 ·skip
  obtain rfl:q=9:=by omega
  refine bK (id (hK3 _ ?_))
  clear hK3;try clear K3
  refine am (eN rfl (ai (aK aa al (h1) rfl rfl) ?_))
  refine ai (bc (r:=1+pv b 1 3) _ _ rfl rfl (bp ab)) ?_
  refine ai (ek _ _ aa rfl rfl rfl 1 rfl ab (by exact (Nat.zero_add _).trans (Nat.mul_one _))) ?_
  refine bQ rfl rfl rfl rfl rfl rfl (aj (am (ai (ek _ _ aa rfl rfl rfl 0 rfl ab (by exact (Nat.zero_add _).trans (Nat.mul_one _))) ?_)))
  refine cK rfl rfl rfl (ai (ek _ _ aa rfl rfl rfl 1 rfl ab (by exact (Nat.zero_add _).trans (Nat.mul_one _))) ?_)
  refine cK rfl rfl rfl (ai (cZ (r:=pv b 0 9 % (1+pv b 1 3)) _ _ rfl rfl ab (Int.tmod_eq_emod_of_nonneg hlo0)) ?_)
  refine ai (ek _ _ aa rfl rfl rfl 0 rfl ab (by exact (Nat.zero_add _).trans (Nat.mul_one _))) ?_
  exact bQ rfl rfl rfl rfl rfl rfl (aj (am (ai (aS _ aa rfl rfl rfl rfl) (bQ rfl rfl rfl rfl rfl rfl (aj (aC (aY (.inr rfl) rfl (.cellA aa rfl rfl rfl) (Le.out [] [] (.agg rfl lz) rfl rfl rfl trivial trivial))))))))

def BY (p v b r:List Int):Mk:=⟨gW p,gK v ((gW p).d+(gW p).v),(List.range 9).map (Dx b),r.take 30⟩
theorem DC (b:List Int) (k:Nat):Rg (Dx b k):=by
 have h1:=pT b 1 (m:=3) ab
 have h2:=pZ b 1 (m:=3) ab
 have h3:=pT b k (m:=9) ab
 have h4:=pZ b k (m:=9) ab
 unfold Dx Rg
 split
 ·have h5:=Int.emod_nonneg (pv b 0 9) (show 1+pv b 1 3≠0 by omega)
  have h6:=Int.emod_lt_of_pos (pv b 0 9) (show 0 < 1+pv b 1 3 by omega)
  omega
 ·split <;> omega
theorem zp {n:Int} (h0:0≤n) (h1:n < 1000000):Rg (xZ n):=by
 unfold xZ
 refine nk (fun x hx=> ?_) _
 simp only [List.mem_cons,List.not_mem_nil,or_false] at hx
 unfold Rg
 rcases hx with rfl | rfl | rfl | rfl | rfl | rfl | rfl <;> omega
theorem rB (a:List Int) (n:Nat): ∀ x∈gK a n,Rg x:=fun x hx=> by
 obtain ⟨i,_,rfl⟩:=List.mem_map.1 hx
 exact zp (sL a i) (sV a i)
theorem rK (b:List Int): ∀ i,Rg (((List.range 9).map (Dx b)).getD i 0):=fun i=> nk (fun x hx=> by
 obtain ⟨j,_,rfl⟩:=List.mem_map.1 hx
 exact DC b j) i
structure AL (M:Mk) (D:Nat→Nat) (nv:Nat):Prop where
 pg:PG M.cx D nv
 iv:M.iv.length=nv
 ir: ∀ v∈M.iv,Rg v
 nv:0 < nv
 ent: ∀ h,h < 40→M.P.e h < 0∨ ∃ e0:Nat,M.P.e h=(e0:Int)∧e0 < M.P.c.length∧D e0=0
 c:M.P.c.length≤1000000
theorem xW (p v b r:List Int): ∃ D nv,AL (BY p v b r) D nv:=by
 by_cases hc:hZ (pa p)=true
 ·have e:gW p=⟨bT (pa p) 0,bY (pa p),2,2⟩:=if_pos hc
  have U:=wY p
  refine ⟨qH (pa p),4,?_,?_,rB _ _,by omega,fun h hh=> ?_,?_⟩
  ·show PG ⟨(gW p).c,(gW p).d,(List.range 9).map (Dx b),r.take 30⟩ _ _
   rw [e]
   exact Cl ab U.ok (rK b)
  ·show (gK v ((gW p).d+(gW p).v)).length=4
   rw [ks,e];rfl
  ·show (gW p).e h < 0∨ ∃ e0:Nat,(gW p).e h=(e0:Int)∧e0 < (gW p).c.length∧_
   rw [e]
   rcases tC (pa p) h with h1 | ⟨e0,_,h1,h2,h3⟩
   ·exact .inl (by show (lR (iJ (pa p) 0)).getD h (-1) < 0;omega)
   ·exact .inr ⟨e0,h1,h2,h3⟩
  ·show (gW p).c.length≤1000000
   rw [e];exact U.c
 ·have e:gW p=um 3 0:=if_neg hc
  refine ⟨rF,1,?_,?_,rB _ _,by omega,fun h hh=> ?_,?_⟩
  ·show PG ⟨(gW p).c,(gW p).d,(List.range 9).map (Dx b),r.take 30⟩ _ _
   rw [e]
   exact AN (by unfold Rg;omega) (by unfold Rg;omega) (rK b)
  ·show (gK v ((gW p).d+(gW p).v)).length=1
   rw [ks,e];rfl
  ·show (gW p).e h < 0∨ ∃ e0:Nat,(gW p).e h=(e0:Int)∧e0 < (gW p).c.length∧_
   rw [e]
   by_cases h0:h=0
   ·subst h0
    exact .inr ⟨0,rfl,by show 0 < (sq 3 0).length;decide,rfl⟩
   ·exact .inl (by show eB 40 h < 0;unfold eB;rw [if_pos ab];omega)
  ·show (gW p).c.length≤1000000
   rw [e];show (sq 3 0).length≤1000000;decide

set_option maxHeartbeats 1000000 in
theorem vz (M:Mk) (h:Nat) (hh:h < 40) (he:M.P.e h < 0) (h0:0 < M.iv.length) (h1:M.iv.length≤1000):
  Spec Tryz.prog 24 (bj [wu M.P, .v (.int .i64 (h:Int)), .sl M.iv.length (dk M.iv), .agg [.v (.int .i64 (M.nm 0)), .v (.int .i64 (M.nm 1)), .v (.int .i64 (M.nm 2)), .v (.int .i64 (M.nm 3)), .v (.int .i64 (M.nm 4)), .v (.int .i64 (M.nm 5)), .v (.int .i64 (M.nm 6)), .v (.int .i64 (M.nm 7)), .v (.int .i64 (M.nm 8))], .sl M.ans.length (dk M.ans)] []) (aX (.tup [.agg [.sl M.iv.length (dk M.iv), .sl 0 [], .v (.int .i64 0), .v (.bool false), .sl 0 []], .sl 0 [], .v (.bool true)]) []):=by
 have hv:=sO M h hh he h0 h1
 refine Spec.ofN Tryz.func24 rfl Tryz.ntmps24 rfl ?_
 refine am (ai (bk (5,0) _ rfl rfl) (ai (bk (8,0) _ rfl rfl) (ai (ay (10,0) aa rfl rfl) (ai (bH _ (rfl:_=AV.v (.slice _ _ _))) (cm rfl (aj (am (eN rfl (ai (aA _ aa rfl (by exact (rfl:_=some [_,_,_]))) ?_)))))))))
 refine ai (bk (17,0) _ rfl rfl) (Et rfl (aj (aq ?_)))
 refine aN (Le.nilB (17,0) 1 (62,0) 3 1 rfl rfl rfl) ?_
 refine an (ai (aS _ aa rfl rfl rfl rfl) (aQ rfl (eN rfl (ai (aS _ aa rfl rfl rfl rfl) (ai (aA _ aa rfl (by exact (rfl:_=some [_,_,_,_,_,_,_,_,_,_]))) ?_)))))
 refine bi rfl (ai (pN _ _ (rfl:_=[_]) (rfl:_=[])) ?_)
 refine ai (eh aa [((4,9),(17,0)),((5,9),(62,0)),((5,8),(25,1))] ar (hv) ob tr tr rfl rfl ae ae) ?_
 refine ai (ay (14,0) aa rfl rfl) (bQ rfl rfl rfl rfl rfl rfl (aj (aq ?_)))
 refine aN (σ':=aB 35 [(10,_),(13,_),(14,_)] [((10,0),_),((17,0),_),((25,1),_),((14,0),_)] [] []) kp ?_
 refine qG 12 [26,27,28,29,30,31,32,33,34,11,12] [(10,0)] ae ae rfl (rfl:_=[_,_,_,_,_,_,_,_,_,_,_,_]) (rfl:_=[]) ?_
 refine ck (_,[]) (fun τ=> aS _ aa rfl rfl rfl rfl) ?_
 refine cj (rfl:_=[_]) ?_
 refine ck (_,[]) (fun τ=> aE _ (rfl:_=AV.ptr _ _)) ?_
 refine cj (rfl:_=[_,_]) ?_
 refine ck (_,[]) (fun τ=> aT _ rfl rfl) ?_
 refine cj (rfl:_=[_,_,_]) ?_
 refine ck (_,[]) (fun τ=> aJ _ aa rfl rfl rfl) ?_
 refine cj (rfl:_=[_,_,_,_]) ?_
 refine ck (_,[]) (fun τ=> aM _ aa rfl rfl (rfl:_=some (AV.ref _ _ _))) ?_
 refine cj (rfl:_=[_,_,_,_,_]) ?_
 refine ck (_,[]) (fun τ=> aE _ (rfl:_=AV.ptr _ _)) ?_
 refine cj (rfl:_=[_,_,_,_,_,_]) ?_
 refine ck (_,[]) (fun τ=> aT _ rfl rfl) ?_
 refine cj (rfl:_=[_,_,_,_,_,_,_]) ?_
 refine ck (_,[]) (fun τ=> aJ _ aa rfl rfl rfl) ?_
 refine cj (rfl:_=[_,_,_,_,_,_,_,_]) ?_
 refine ck (_,[]) (fun τ=> aM _ aa rfl rfl (rfl:_=some (AV.v (.bool _)))) ?_
 refine cj (rfl:_=[_,_,_,_,_,_,_,_,_]) ?_
 refine ck (_,[((10,0),_)]) (fun τ=> jX _ _ aa rfl rfl rfl rfl (Nat.le_of_ble_eq_true rfl) rfl) ?_
 refine cj (rfl:_=[_,_,_,_,_,_,_,_,_,_]) ?_
 refine ck (_,[]) (fun τ=> bH _ (rfl:_=AV.ref _ _ _)) ?_
 refine cj (rfl:_=[_,_,_,_,_,_,_,_,_,_,_]) ?_
 refine ck (_,[]) (fun τ=> bH _ (rfl:_=AV.v (.bool _))) ?_
 refine cj (rfl:_=[_,_,_,_,_,_,_,_,_,_,_,_]) ?_
 refine oq ⟨⟨rfl,by kernel_rfl,by kernel_rfl⟩,?_⟩
 exact aj (aC (BR (.inr rfl) rfl (.cellA aa rfl rfl rfl) (.tmp (rfl:_=AV.ref _ _ _)) (.tmp (rfl:_=AV.v _)) (Le.out [] [(25,1)] (.tup rfl (aI (.agg rfl lz) (aI (iq rfl rfl rfl rfl) lz))) rfl rfl rfl tr trivial)))

def uK (M:Mk) (h:Nat):Ms:=if M.P.e h < 0 then { vars:=M.iv,pc:=0,fin:=true } else fT M.cx 500 (dF M.iv (M.P.e h).toNat)
theorem uk {M:Mk} {h:Nat} (he:M.P.e h < 0):uK M h={ vars:=M.iv,pc:=0,fin:=true }:=if_pos he
theorem ra {M:Mk} {h e0:Nat} (he:M.P.e h=(e0:Int)):uK M h=fT M.cx 500 (dF M.iv e0):=by
  unfold uK;rw [if_neg ab,he];rfl
abbrev Gj (M:Mk) (h:Nat):List AV:=[wu M.P, .v (.int .i64 (h:Int)), .sl M.iv.length (dk M.iv), .agg [.v (.int .i64 (M.nm 0)), .v (.int .i64 (M.nm 1)), .v (.int .i64 (M.nm 2)), .v (.int .i64 (M.nm 3)), .v (.int .i64 (M.nm 4)), .v (.int .i64 (M.nm 5)), .v (.int .i64 (M.nm 6)), .v (.int .i64 (M.nm 7)), .v (.int .i64 (M.nm 8))], .sl M.ans.length (dk M.ans)]
abbrev Fi (s:Ms):AV:= .tup [.agg [.sl s.vars.length (dk s.vars), .sl s.acts.length (uD s.acts), .v (.int .i64 (s.steps:Int)), .v (.bool (!s.fin)), .sl (jJ s.cov).length (dk (jJ s.cov))], .sl s.asked.length (dk s.asked), .v (.bool true)]
theorem wh {M:Mk} {D:Nat→Nat} {nv:Nat} (K:AL M D nv) (hn:M.ans.length≤4611686018427387904) (h:Nat) (hh:h < 40):
    Spec Tryz.prog 24 (bj (Gj M h) []) (aX (Fi (uK M h)) []):=by
  have hnv:=K.pg.nv
  have h0:0 < M.iv.length:=by rw [K.iv];exact K.nv
  have h1:M.iv.length≤1000:=by rw [K.iv];omega
  rcases K.ent h hh with he | ⟨e0,he,he2,hD⟩
  · rw [uk he];exact vz M h hh he h0 h1
  · rw [ra he]
    have hr:=qY M D nv K.pg h hh e0 he he2 hD K.iv K.ir K.nv K.c hn _ rfl
    rw [← Do] at hr
    exact hr
theorem yn {l:List Int} {x y:Int}:y∈jM l x↔y∈l∨y=x:=by
  by_cases hx:x∈l
  · have e:jM l x=l:=by unfold jM;rw [if_pos hx]
    rw [e]
    exact ⟨.inl,fun h=> h.elim id fun e=> e ▸ hx⟩
  · rw [(pi hx).mem_iff,List.mem_append,List.mem_singleton]
theorem rO: ∀ (l:List Nat) (m:List Int) (y:Int),y∈l.foldl (fun m (i:Nat)=> jM m (i:Int)) m↔y∈m∨ ∃ i∈l,y=(i:Int)
  | [],m,y=> by simp
  | i::l,m,y=> by
    rw [List.foldl_cons,rO l,yn]
    constructor
    · rintro ((h | h) | ⟨j,hj,h⟩)
      · exact .inl h
      · exact .inr ⟨i,List.mem_cons_self,h⟩
      · exact .inr ⟨j,List.mem_cons_of_mem _ hj,h⟩
    · rintro (h | ⟨j,hj,h⟩)
      · exact .inl (.inl h)
      · rcases List.mem_cons.1 hj with rfl | hj
        · exact .inl (.inr h)
        · exact .inr ⟨j,hj,h⟩
theorem mem_covS {l:List Nat} {y:Int}:y∈jJ l↔ ∃ i∈l,y=(i:Int):=by
  unfold jJ;rw [rO];simp
theorem AT {K:Cx} (k:Nat) {s:Ms} (h:s.fin=false):fT K (k+1) s=fT K k (fP K s):=by rw [fT,if_neg (by rw [h];decide)]
structure ER (M:Mk) (nv h:Nat) (s:Ms):Prop where
  vl:s.vars.length=nv
  rv: ∀ v∈s.vars,Rg v
  ac: ∀ a∈s.acts,wQ M.cx nv a
  sn:ct s.acts≤20
  ar: ∀ k∈s.asked,2≤k∧k≤4
  al:s.acts.length≤500
  kl:s.asked.length≤500
  wr:s.vars.take M.P.d=zd (M.iv.take M.P.d) s.acts
  st:s.steps≤500
  sf:s.fin=false→s.steps=500
  cl:(jJ s.cov).length≤s.steps
  no:M.P.e h < 0→s={ vars:=M.iv,pc:=0,fin:=true }
  srt:(jJ s.cov).Pairwise (· < ·)
  rg: ∀ i∈jJ s.cov,∃ j:Nat,i=(j:Int)∧j < M.P.c.length
  en:0≤M.P.e h→M.P.e h∈jJ s.cov
  fn:0≤M.P.e h→s.fin=true→ ∃ j:Nat,(j:Int)∈jJ s.cov∧ ∃ x,M.P.c[j]? =some x∧x.op= .stop
theorem Ds {M:Mk} {D:Nat→Nat} {nv:Nat} (K:AL M D nv) (h:Nat) (hh:h < 40):ER M nv h (uK M h):=by
  rcases K.ent h hh with he | ⟨e0,he,he2,hD⟩
  · rw [uk he]
    refine ⟨K.iv,K.ir,fun a ha=> absurd ha (List.not_mem_nil),Nat.zero_le _,fun k hk=> absurd hk (List.not_mem_nil),Nat.zero_le _,Nat.zero_le _,rfl,Nat.zero_le _,(fun h=> nomatch h),Nat.le_refl _,fun _=> rfl, .nil,fun i hi=> absurd hi (List.not_mem_nil),fun h=> ?_,fun h=> ?_⟩
    · omega
    · omega
  · rw [ra he]
    have hat0:=rD (K:=M.cx) (D:=D) K.iv K.ir he2 hD
    have hat:=CS K.pg hat0 500
    have hst:=py (K:=M.cx) 500 (dF M.iv e0)
    have hsz:Sz (fT M.cx 500 (dF M.iv e0)):=lV (I:=Sz) (fun s hs _=> uq hs) 500 _ ⟨Nat.le_refl _,Nat.le_refl _,Nat.le_refl _⟩
    have hwr:=Bg K.pg hat0 500
    obtain ⟨cl,hcl⟩: ∃ l,(fT M.cx 500 (dF M.iv e0)).cov=e0::l:=by
      obtain ⟨l,hl⟩:=tT (K:=M.cx) 499 (fP M.cx (dF M.iv e0))
      rw [stepM_steps.2] at hl
      have e:=AT (K:=M.cx) 499 (s:=dF M.iv e0) rfl
      exact ⟨l,(congrArg Ms.cov e).trans hl⟩
    generalize fT M.cx 500 (dF M.iv e0)=s at*
    have hs5:s.steps≤500:=by simpa [dF] using hst.1
    have h2:=hsz.ac
    have h3:=hsz.ak
    have h5:=ye s.cov
    have h6:=hat.cn
    refine ⟨hat.iv.vl,hat.iv.rv,hat.iv.ac,hat.iv.sn,hat.iv.ar,by omega,by omega,hwr,hs5,fun hf=> ?_,by omega,fun h=> by omega,?_,fun i hi=> ?_,fun _=> ?_,fun _ hf=> ?_⟩
    · have:=hst.2 hf;simpa [dF] using this
    · exact oB _ _ .nil
    · obtain ⟨j,hj,rfl⟩:=mem_covS.1 hi
      exact ⟨j,rfl,hat.cl j hj⟩
    · rw [he];exact mem_covS.2 ⟨e0,by rw [hcl];exact List.mem_cons_self,rfl⟩
    · obtain ⟨i,hi,x,hx,ho⟩:=hat.fn hf
      exact ⟨i,mem_covS.2 ⟨i,hi,rfl⟩,x,hx,ho⟩

abbrev Es (l:List Int):Prop:=l.length≤4611686018427387904∧ ∀ x∈l, -9223372036854775808≤x∧x≤9223372036854775807

def mL:Mk:=⟨⟨bT onsL 0,bY onsL,0,1⟩,[0],[0,1,0,0,0,0,0,0,0],[]⟩
def rL:Ms:=fT mL.cx 500 (dF [0] 0)
theorem zx:rL.vars=[3]:=by kernel_rfl
theorem zV:rL.acts=[{ k:=3,a:=0,b:=3,c:=3,d:=1 }]:=by kernel_rfl
theorem Cv:rL.fin=true:=by kernel_rfl
theorem yr:0 < rL.steps:=of_decide_eq_true ae
theorem FQ:PG mL.cx (qH onsL) 1:=Cl ab usrcL.ok (fun i=> nk (fun x hx=> by
 have hx:x∈[(0:Int),1,0,0,0,0,0,0,0]:=hx
 simp only [List.mem_cons,List.not_mem_nil,or_false] at hx
 unfold Rg;omega) i)
theorem DE:mL.P.e 0=((0:Nat):Int):=by kernel_rfl
theorem Dn:0 < mL.P.c.length:=of_decide_eq_true ae
theorem Dh:qH onsL 0=0:=by kernel_rfl
set_option maxHeartbeats 1000000 in
theorem sQ:Spec Tryz.prog 27 (bj [] []) (aX (.v (.bool true)) []):=by
 have hb:=tj usrcL
 rw [wn,if_pos (vM srcOkL)] at hb
 have hb:Spec Tryz.prog 64 (bj [.v (bt Ej)] []) (aX (.tup [wu mL.P, .v (.int .i64 0)]) []):=hb
 have hrun:=qY mL (qH onsL) 1 FQ 0 ab 0 DE Dn Dh rfl (fun x hx=> by rw [List.mem_singleton.1 hx];unfold Rg;omega) ab usrcL.c (by show 0≤_;omega) rL rfl
 rw [zx,zV,Cv] at hrun
 have hn:=yr
 have hrun:Spec Tryz.prog 24 (bj [wu mL.P, .v (.int .i64 0), .sl 1 (dk [0]), .agg [.v (.int .i64 0), .v (.int .i64 1), .v (.int .i64 0), .v (.int .i64 0), .v (.int .i64 0), .v (.int .i64 0), .v (.int .i64 0), .v (.int .i64 0), .v (.int .i64 0)], .sl 0 []] []) (aX (.tup [.agg [.sl 1 (dk [3]), .sl 1 (uD [{ k:=3,a:=0,b:=3,c:=3,d:=1 }]), .v (.int .i64 (rL.steps:Int)), .v (.bool false), .sl (jg (nf rL.cov)).length (dk (jg (nf rL.cov)))], .sl rL.asked.length (dk rL.asked), .v (.bool true)]) []):=hrun
 generalize rL.steps=n at hn hrun
 generalize jg (nf rL.cov)=cv at hrun
 generalize rL.asked=ak at hrun
 generalize mL.P=P at hb hrun
 refine Spec.ofN Tryz.func27 rfl Tryz.ntmps27 rfl ?_
 refine am (cm rfl (aj (am (ai (aK aa al (hb) rfl rfl) ?_))))
 refine ai (aE _ (rfl:_=AV.tup _)) (ai (dc _ rfl (rfl:_=some (AV.agg _))) (ai (dc _ rfl (rfl:_=some (AV.v (.int _ _)))) (ai (ay (1,0) aa rfl rfl) (bQ rfl rfl rfl rfl rfl rfl (aZ rfl (aj (am (ai (ay (3,0) aa rfl rfl) (aj (am ?_))))))))))
 refine ai (ek _ _ aa rfl rfl rfl 1 rfl ab (by exact (Nat.zero_add _).trans (Nat.mul_one _))) ?_
 refine bQ rfl rfl rfl rfl rfl rfl (aj (am (ai (aS _ aa rfl rfl rfl rfl) (ai (aW _ _ aa rfl ag (by (simp <;> rfl)) ah rfl) ?_))))
 refine ai (aS _ aa rfl rfl rfl rfl) (ai (aK aa al (hrun) rfl rfl) ?_)
 refine ai (aE _ (rfl:_=AV.tup _)) (ai (dc _ rfl (rfl:_=some (AV.agg _))) (ai (dc _ rfl (rfl:_=some (AV.sl _ _))) (ai (dc _ rfl (rfl:_=some (AV.v (.bool _)))) (ai (ay (4,0) aa rfl rfl) (bQ rfl rfl rfl rfl rfl rfl (lf rfl (cm rfl (aj (aq ?_)))))))))
 refine aN (σ':=aB 48 [(2,_),(4,_),(6,_)] [((4,0),_)] [] []) kp ?_
 refine an (aQ rfl (iX rfl rfl rfl (cL rfl (ax rfl rfl (aE _ (rfl:_=AV.v (.bool _))) (ai (aD _ _ _ rfl (rfl:_=AV.v (.bool _))) (cL rfl (ax rfl rfl (aJ _ aa rfl rfl rfl) (ax rfl rfl (aM _ aa rfl rfl (rfl:_=some (AV.sl _ _))) (ax rfl rfl (aW _ _ aa rfl ag (by (simp <;> rfl)) ah rfl) ?_)))))))))
 refine ax rfl rfl (aK aa al (tB [3] ah) rfl rfl) ?_
 refine ai (aD _ _ _ rfl (rfl:_=AV.v (.bool _))) (cL rfl (ax rfl rfl (aJ _ aa rfl rfl rfl) (ax rfl rfl (aM _ aa rfl rfl (rfl:_=some (AV.sl _ _))) (ax rfl rfl (aA _ aa rfl (by exact (rfl:_=some [_,_,_,_,_]))) ?_))))
 refine ax rfl rfl (aW _ _ aa rfl ag (by (simp <;> rfl)) ah rfl) ?_
 refine ax rfl rfl (aK aa al (oS [{ k:=3,a:=0,b:=3,c:=3,d:=1 }] ah) rfl rfl) ?_
 refine ai (aD _ _ _ rfl (rfl:_=AV.v (.bool _))) (cL rfl (ax rfl rfl (aJ _ aa rfl rfl rfl) (ax rfl rfl (aM _ aa rfl rfl (rfl:_=some (AV.v (.bool _)))) (ax rfl rfl (cR (r:=true) _ rfl rfl) (ai (aD _ _ _ rfl (rfl:_=AV.v (.bool _))) (cL rfl (ax rfl rfl (aJ _ aa rfl rfl rfl) (ax rfl rfl (aM _ aa rfl rfl (rfl:_=some (AV.v (.int _ _)))) (ax rfl rfl (dt (r:=true) _ _ rfl rfl (decide_eq_true ab)) ?_)))))))))
 refine ai (aD _ _ _ rfl (rfl:_=AV.v (.bool _))) (cm rfl (aj (aC (aY (.inr rfl) rfl (.tmp (rfl:_=AV.v (.bool _))) (Le.out [] [] (gz ?_) rfl rfl rfl trivial trivial)))))
 rfl

abbrev TR (M:Mk):AV:= .agg [.v (.int .i64 (M.nm 0)), .v (.int .i64 (M.nm 1)), .v (.int .i64 (M.nm 2)), .v (.int .i64 (M.nm 3)), .v (.int .i64 (M.nm 4)), .v (.int .i64 (M.nm 5)), .v (.int .i64 (M.nm 6)), .v (.int .i64 (M.nm 7)), .v (.int .i64 (M.nm 8))]
theorem Bu (p v r:List Int) (hp:Es p) (hv:Es v) (hr:Es r): ∃ (M:Mk) (D:Nat→Nat) (nv:Nat),AL M D nv∧M.ans.length≤4611686018427387904∧
  Spec Tryz.prog 20 (bj [.sl p.length (dk p)] []) (aX (wu M.P) [])∧
  Spec Tryz.prog 21 (bj [.sl r.length (dk r), .v (.int .i64 20)] []) (aX (.sl M.ans.length (dk M.ans)) [])∧
  Spec Tryz.prog 22 (bj [wu M.P, .sl v.length (dk v)] []) (aX (.sl M.iv.length (dk M.iv)) [])∧
  Spec Tryz.prog 23 (bj [.sl v.length (dk v)] []) (aX (TR M) [])∧M.P.d≤M.iv.length∧M.iv.length≤16:=by
 obtain ⟨D,nv,K⟩:=xW p v v (r.take 20)
 obtain ⟨M,hM⟩: ∃ M,M=BY p v v (r.take 20):=⟨_,rfl⟩
 rw [← hM] at K
 have hnv:=K.pg.nv
 have ha:M.ans=r.take 20:=by rw [hM];show (r.take 20).take 30=_;rw [List.take_take];rfl
 have hl:(r.take 20).length≤20:=by rw [List.length_take];omega
 have hiv:M.iv=gK v (M.P.d+M.P.v):=by rw [hM];rfl
 have hdv:M.P.d+M.P.v=nv:=by have:=K.iv;rw [hiv,ks] at this;exact this
 have hi2:=K.iv
 refine ⟨M,D,nv,K,by rw [ha];omega,by rw [hM];exact vZ p hp.1 hp.2,by rw [ha];exact ph r hr.1 20 ab,?_,by rw [hM];exact te v ⟨hv.1,hv.2⟩,by omega,by omega⟩
 rw [hiv];exact wj M.P v ⟨hv.1,hv.2⟩ ab

def ta (C:List et) (i:Int):Bool:=((cJ C i.toNat).op.num:Int)==23
theorem yb (l:List Int) (f:Int→Bool) {k:Nat} (h:k < l.length):(l.take (k+1)).any f=((l.take k).any f || f (l.getD k 0)):=by
 rw [List.take_add_one,List.getElem?_eq_getElem h,List.any_append]
 simp [List.getD_eq_getElem?_getD,h]
set_option maxHeartbeats 1000000 in
theorem oN (p v r:List Int) (hp:Es p) (hv:Es v) (hr:Es r):
  Spec Tryz.prog 8 (bj [.sl p.length (dk p), .sl v.length (dk v), .sl r.length (dk r)] []) (aX (.v (.bool true)) []):=by
 obtain ⟨M,D,nv,K,hans,h1,h2,h3,h4,hd0,hnv⟩:=Bu p v r hp hv hr
 have hB:=fun h hh=> Ds K h hh
 have hR:=fun h hh=> wh K hans h hh
 have hcl:=K.c
 have hg:=fun h hh=> nc M.P.c.length (inl M.P.c) M.P.e (M.P.d:Int) (M.P.v:Int) h hh
 refine Spec.ofN Tryz.func8 rfl Tryz.ntmps8 rfl ?_
 refine am (cm rfl (aj (am (eN rfl (ai (aK aa al (h1) rfl rfl) ?_)))))
 refine ai (ay (7,0) aa rfl rfl) (bQ rfl rfl rfl rfl rfl rfl (aj (aG fun K3 hK3=> ?_)))
 refine am (aZ rfl (aj (au ?_)))
 refine bB (α:=Nat) (fun k=> k≤40) 116 [(1,_),(2,_),(7,_)] [((7,0),_)] (fun k=> [(8, .v (.int .i64 (k:Int)))]) (fun k=> []) [] [] (fun k=> 40 - k) 0 ?_ (by
  refine Le.mkJ [] [] rfl ?_ ?_ trivial trivial ?_
  ·exact ⟨(iS rfl),(iS rfl),(iP rfl),(ci ag),trivial⟩
  ·exact ⟨(cD rfl rfl rfl),trivial⟩
  ·kernel_rfl) ?_
 ·omega
 intro k hk
 refine aG fun K5 hK5=> ?_
 refine am (aQ rfl (ai (bq _ _ rfl rfl rfl) (aj (aU rfl (fun hc18=> ?_) (fun hc18=> ?_)))))
 ·skip
  have ho:=hB k ab
  have hr2:=hR k ab
  generalize uK M k=s at ho hr2
  have s1:=ho.vl
  have s2:=ho.al
  have s3:=ho.cl
  have s4:=ho.st
  have hgk:=hg k ab
  refine bu (hK5 _ ?_)
  clear hK5;try clear K5
  refine aG fun K7 hK7=> ?_
  refine au (aq (qG 18 [22,23,24,25,26,27,28,29,30,31,21,32,33,34,9,10,11] [(9,0),(9,0)] ae ae rfl (rfl:_=[_,_,_,_,_,_,_,_,_,_,_,_,_,_,_,_,_,_]) (rfl:_=[]) ?_))
  refine ck (_,[]) (fun τ=> aS _ aa rfl rfl rfl rfl) ?_
  refine cj (rfl:_=[_]) ?_
  refine ck (_,[]) (fun τ=> aE _ (rfl:_=AV.v (.int _ _))) ?_
  refine cj (rfl:_=[_,_]) ?_
  refine ck (_,[]) (fun τ=> aS _ aa rfl rfl rfl rfl) ?_
  refine cj (rfl:_=[_,_,_]) ?_
  refine ck (_,[]) (fun τ=> aE _ (rfl:_=AV.sl _ _)) ?_
  refine cj (rfl:_=[_,_,_,_]) ?_
  refine ck (_,[]) (fun τ=> (aK aa al (h3) rfl rfl)) ?_
  refine cj (rfl:_=[_,_,_,_,_]) ?_
  refine ck (_,[]) (fun τ=> aE _ (rfl:_=AV.sl _ _)) ?_
  refine cj (rfl:_=[_,_,_,_,_,_]) ?_
  refine ck (_,[]) (fun τ=> (aK aa al (h4) rfl rfl)) ?_
  refine cj (rfl:_=[_,_,_,_,_,_,_]) ?_
  refine ck (_,[]) (fun τ=> aE _ (rfl:_=AV.sl _ _)) ?_
  refine cj (rfl:_=[_,_,_,_,_,_,_,_]) ?_
  refine ck (_,[]) (fun τ=> (aK aa al (h2) rfl rfl)) ?_
  refine cj (rfl:_=[_,_,_,_,_,_,_,_,_]) ?_
  refine ck (_,[]) (fun τ=> (aK aa al (hr2) rfl rfl)) ?_
  refine cj (rfl:_=[_,_,_,_,_,_,_,_,_,_]) ?_
  refine ck (_,[]) (fun τ=> aE _ (rfl:_=AV.tup _)) ?_
  refine cj (rfl:_=[_,_,_,_,_,_,_,_,_,_,_]) ?_
  refine ck (_,[]) (fun τ=> dc _ rfl (rfl:_=some (AV.agg _))) ?_
  refine cj (rfl:_=[_,_,_,_,_,_,_,_,_,_,_,_]) ?_
  refine ck (_,[]) (fun τ=> dc _ rfl (rfl:_=some (AV.sl _ _))) ?_
  refine cj (rfl:_=[_,_,_,_,_,_,_,_,_,_,_,_,_]) ?_
  refine ck (_,[]) (fun τ=> dc _ rfl (rfl:_=some (AV.v (.bool _)))) ?_
  refine cj (rfl:_=[_,_,_,_,_,_,_,_,_,_,_,_,_,_]) ?_
  refine ck (_,[((9,0),_)]) (fun τ=> ay (9,0) aa rfl rfl) ?_
  refine cj (rfl:_=[_,_,_,_,_,_,_,_,_,_,_,_,_,_,_]) ?_
  refine ck (_,[((9,0),_)]) (fun τ=> jX _ _ aa rfl rfl rfl rfl (Nat.le_of_ble_eq_true rfl) rfl) ?_
  refine cj (rfl:_=[_,_,_,_,_,_,_,_,_,_,_,_,_,_,_,_]) ?_
  refine ck (_,[]) (fun τ=> bH _ (rfl:_=AV.sl _ _)) ?_
  refine cj (rfl:_=[_,_,_,_,_,_,_,_,_,_,_,_,_,_,_,_,_]) ?_
  refine ck (_,[]) (fun τ=> bH _ (rfl:_=AV.v (.bool _))) ?_
  refine cj (rfl:_=[_,_,_,_,_,_,_,_,_,_,_,_,_,_,_,_,_,_]) ?_
  refine oq ⟨⟨rfl,by kernel_rfl,by kernel_rfl⟩,?_⟩
  refine aj (aq (aq ?_))
  refine aN (σ':=aB 116 [(1,_),(2,_),(7,_),(8,_),(9,_)] [((7,0),_),((9,0),_)] [] []) kp ?_
  refine an (aQ rfl (bE rfl rfl rfl (ai (ek _ _ aa rfl rfl rfl k rfl ab (by exact congrArg (fun z=> 0+1+z) (Nat.mul_one k))) ?_)))
  refine ai (aM _ aa rfl rfl (by exact (congrArg (fun z=> (ym M.P.c.length (inl M.P.c) M.P.e (M.P.d:Int) (M.P.v:Int))[z]?) ab).trans hgk)) ?_
  refine ai (bq _ _ rfl rfl rfl) (aj (aU rfl (fun hc39=> ?_) (fun hc39=> ?_)))
  ·skip
   obtain rfl:=ho.no hc39
   refine aq (am (bE rfl rfl rfl (fo rfl rfl rfl (ai (bF _ aa rfl) (ai (bX (r:=false) _ _ rfl rfl rfl) (cL rfl (ax rfl rfl (aJ _ aa rfl rfl rfl) (ax rfl rfl (aM _ aa rfl rfl (rfl:_=some (AV.v (.int _ _)))) (ax rfl rfl (bX (r:=false) _ _ rfl rfl rfl) (ai (aD _ _ _ rfl (rfl:_=AV.v (.bool _))) ?_))))))))))
   refine cL rfl (ax rfl rfl (aJ _ aa rfl rfl rfl) (ax rfl rfl (aM _ aa rfl rfl (rfl:_=some (AV.v (.bool _)))) (ai (aD (b:=false) _ _ _ rfl rfl) ?_)))
   refine aj (aP rfl rfl (aH (bK (id (hK7 _ ?_)))))
   clear hK7;try clear K7
   refine aN (σ':=aB 116 [(1,_),(2,_),(7,_),(8,_)] [((7,0),_)] [] []) kp ?_
   refine an (aQ rfl (ai (bc _ _ rfl rfl (bp ab)) ?_))
   refine aZ rfl (az (⟨k+1,?_,?_,?_⟩))
   ·omega
   ·skip
    refine Le.mkJ [] [] rfl ?_ ?_ trivial trivial ?_
    ·exact ⟨(iS rfl),(iS rfl),(iP rfl),(ci ag),trivial⟩
    ·exact ⟨(cD rfl rfl rfl),trivial⟩
    ·kernel_rfl
   ·omega
  ·skip
   have he0:0≤M.P.e k:=by omega
   have hen:=ho.en he0
   have hfn:=ho.fn he0
   have hrg:=ho.rg
   have hsrt:=ho.srt
   obtain ⟨cv,hcv⟩: ∃ cv,cv=jJ s.cov:=⟨_,rfl⟩
   rw [← hcv] at hen hfn hrg hsrt s3
   simp only [← hcv]
   have hst:s.fin=true→cv.any (ta M.P.c)=true:=fun hf=> by
    obtain ⟨j,hj,x,hx,ho⟩:=hfn hf
    refine List.any_eq_true.2 ⟨_,hj,?_⟩
    unfold ta cJ
    rw [Int.toNat_natCast,List.getD_eq_getElem?_getD,hx]
    show ((x.op.num:Int)==23)=true
    rw [ho];rfl
   refine aH (am (cm rfl (aj (aG fun K14 hK14=> ?_))))
   refine am (aZ rfl (aj (au ?_)))
   refine bB (α:=Nat) (fun j=> j≤cv.length) 116 [(1,_),(2,_),(7,_),(8,_),(9,_)] [((7,0),_),((9,0),_)] (fun j=> [(12, .v (.bool ((cv.take j).any (ta M.P.c)))),(13, .v (.int .i64 (j:Int)))]) (fun j=> []) [] [] (fun j=> cv.length - j) 0 ?_ (by
    refine Le.mkJ [] [] rfl ?_ ?_ trivial trivial ?_
    ·exact ⟨(iS rfl),(iS rfl),(iP rfl),(iV rfl),(iP rfl),(gz ag),(ci ag),trivial⟩
    ·exact ⟨(cD rfl rfl rfl),(cD rfl rfl rfl),trivial⟩
    ·kernel_rfl) ?_
   ·omega
   intro j hj
   refine aG fun K16 hK16=> ?_
   refine am (aQ rfl (bE rfl rfl rfl (fo rfl rfl rfl (ai (bF _ aa rfl) (ai (bq _ _ rfl rfl rfl) (aj (aU rfl (fun hc57=> ?_) (fun hc57=> ?_))))))))
   ·skip
    have t1:=yb cv (ta M.P.c) (k:=j) ab
    have hm:cv.getD j 0∈cv:=by rw [List.getD_eq_getElem?_getD,List.getElem?_eq_getElem ab];exact List.getElem_mem _
    obtain ⟨i,hi,hi2⟩:=hrg _ hm
    have t2:0 < j→cv.getD (j - 1) 0 < cv.getD j 0:=fun h0=> by
     rw [List.getD_eq_getElem?_getD,List.getD_eq_getElem?_getD,List.getElem?_eq_getElem ab,List.getElem?_eq_getElem ab]
     exact List.pairwise_iff_getElem.1 hsrt _ _ _ _ ab
    have t3:ta M.P.c (cv.getD j 0)=(((cJ M.P.c i).op.num:Int)==23):=by unfold ta;rw [hi,Int.toNat_natCast]
    refine bu (hK16 _ ?_)
    clear hK16;try clear K16
    refine aq (au (am (bE rfl rfl rfl (fo rfl rfl rfl (aQ rfl (ai (bf _ _ aa rfl rfl _ rfl ab (by (simp only [ba,bn,bm,ba,gN,bL];omega)) (by exact Nat.mul_one _)) ?_))))))
    refine ai (bC _ aa rfl (by exact dC _ _ ab) rfl) ?_
    refine aZ rfl (aj (aq (am (aQ rfl (ai (bq (r:=false) _ _ rfl rfl (decide_eq_false ab)) ?_)))))
    refine cL rfl (ax rfl rfl (aE _ (rfl:_=AV.v (.int _ _))) (ax rfl rfl (aJ _ aa rfl rfl rfl) (ax rfl rfl (aM _ aa rfl rfl (rfl:_=some (AV.sl _ _))) (ax rfl rfl (bF _ aa rfl) (ax rfl rfl (eD (r:=false) _ _ rfl rfl (decide_eq_false ab)) ?_)))))
    refine ai (aD _ _ _ rfl (rfl:_=AV.v (.bool _))) (cL rfl (ax rfl rfl (aE _ (rfl:_=AV.v (.int _ _))) (ax rfl rfl (dt _ _ rfl rfl rfl) (ax rfl rfl (aE _ (rfl:_=AV.v (.bool _))) (dn (fun hg77=> ?_) (fun hg77=> ?_))))))
    ·skip
     refine ax rfl rfl (aJ _ aa rfl rfl rfl) (ax rfl rfl (aM _ aa rfl rfl (rfl:_=some (AV.sl _ _))) (ax rfl rfl (aE _ (rfl:_=AV.v (.int _ _))) (ax rfl rfl (ca _ _ rfl rfl (bp ab)) ?_)))
     refine ax rfl rfl (bf _ _ aa rfl rfl (j - 1) ab ab (by rw [ba];omega) (Nat.mul_one _)) ?_
     refine ax rfl rfl (bC _ aa rfl (by exact dC _ _ ab) rfl) ?_
     refine ax rfl rfl (aE _ (rfl:_=AV.v (.int _ _))) (ax rfl rfl (eD (r:=false) _ _ rfl rfl (decide_eq_false (by have:=t2 ab;omega))) ?_)
     refine ax rfl rfl (aD _ _ _ rfl (rfl:_=AV.v (.bool _))) (ai (aD _ _ _ rfl (rfl:_=AV.v (.bool _))) (aj (aP rfl rfl (aH ?_))))
     refine aN (σ':=aB 116 [(1,_),(2,_),(7,_),(8,_),(9,_),(12,_),(13,_),(14,_)] [((7,0),_),((9,0),_)] [] []) kp ?_
     refine an (cL rfl (cL rfl (dn (fun hg89=> ?_) (fun hg89=> ?_))))
     ·skip
      refine aR rfl rfl ah ?_
      refine aR rfl rfl ah ?_
      refine aR rfl rfl ah ?_
      refine aR rfl rfl ah ?_
      refine aR rfl rfl ah ?_
      refine aR rfl rfl ah ?_
      refine aR rfl rfl ah ?_
      refine ai (aD _ _ _ rfl (rfl:_=AV.v (.bool _))) (cm rfl (fc (an (aQ rfl (ai (bc _ _ rfl rfl (bp ab)) ?_)))))
      refine aZ rfl (az (⟨j+1,?_,?_,?_⟩))
      ·omega
      ·skip
       refine Le.mkJ [] [] rfl ?_ ?_ trivial trivial ?_
       ·exact ⟨(iS rfl),(iS rfl),(iP rfl),(iV rfl),(iP rfl),(gz (by (rw [t1,t3];simp_all))),(ci ag),trivial⟩
       ·exact ⟨(cD rfl rfl rfl),(cD rfl rfl rfl),trivial⟩
       ·kernel_rfl
      ·omega
     ·skip
      refine ax rfl rfl (aJ _ aa rfl rfl rfl) (ax rfl rfl (aM _ aa rfl rfl (rfl:_=some (AV.sl _ _))) (ax rfl rfl (aE _ (rfl:_=AV.v (.int _ _))) (ax rfl rfl (bf _ _ aa rfl rfl i hi ab (by rw [bL];omega) rfl) ?_)))
      refine ax rfl rfl (cY _ aa rfl rfl) (ax rfl rfl (bC _ aa rfl (by exact iu _ _ ab) rfl) ?_)
      refine ax rfl rfl (bP _ _ rfl rfl rfl) (ai (aD _ _ _ rfl (rfl:_=AV.v (.bool _))) (cm rfl (fc (an (aQ rfl (ai (bc _ _ rfl rfl (bp ab)) ?_))))))
      refine aZ rfl (az (⟨j+1,?_,?_,?_⟩))
      ·omega
      ·skip
       refine Le.mkJ [] [] rfl ?_ ?_ trivial trivial ?_
       ·exact ⟨(iS rfl),(iS rfl),(iP rfl),(iV rfl),(iP rfl),(gz (by (rw [t1,t3];simp_all))),(ci ag),trivial⟩
       ·exact ⟨(cD rfl rfl rfl),(cD rfl rfl rfl),trivial⟩
       ·kernel_rfl
      ·omega
    ·skip
     refine aR rfl rfl ah ?_
     refine aR rfl rfl ah ?_
     refine aR rfl rfl ah ?_
     refine aR rfl rfl ah ?_
     refine aR rfl rfl ah ?_
     refine aR rfl rfl ah ?_
     refine aR rfl rfl ah ?_
     refine aR rfl rfl ah ?_
     refine ax rfl rfl (aD (b:=false) _ _ _ rfl rfl) ?_
     refine ai (aD _ _ _ rfl (rfl:_=AV.v (.bool _))) (aj (aP rfl rfl (aH ?_)))
     refine aN (σ':=aB 116 [(1,_),(2,_),(7,_),(8,_),(9,_),(12,_),(13,_),(14,_)] [((7,0),_),((9,0),_)] [] []) kp ?_
     refine an (cL rfl (cL rfl (dn (fun hg89=> ?_) (fun hg89=> ?_))))
     ·skip
      refine aR rfl rfl ah ?_
      refine aR rfl rfl ah ?_
      refine aR rfl rfl ah ?_
      refine aR rfl rfl ah ?_
      refine aR rfl rfl ah ?_
      refine aR rfl rfl ah ?_
      refine aR rfl rfl ah ?_
      refine ai (aD _ _ _ rfl (rfl:_=AV.v (.bool _))) (cm rfl (fc (an (aQ rfl (ai (bc _ _ rfl rfl (bp ab)) ?_)))))
      refine aZ rfl (az (⟨j+1,?_,?_,?_⟩))
      ·omega
      ·skip
       refine Le.mkJ [] [] rfl ?_ ?_ trivial trivial ?_
       ·exact ⟨(iS rfl),(iS rfl),(iP rfl),(iV rfl),(iP rfl),(gz (by (rw [t1,t3];simp_all))),(ci ag),trivial⟩
       ·exact ⟨(cD rfl rfl rfl),(cD rfl rfl rfl),trivial⟩
       ·kernel_rfl
      ·omega
     ·skip
      refine ax rfl rfl (aJ _ aa rfl rfl rfl) (ax rfl rfl (aM _ aa rfl rfl (rfl:_=some (AV.sl _ _))) (ax rfl rfl (aE _ (rfl:_=AV.v (.int _ _))) (ax rfl rfl (bf _ _ aa rfl rfl i hi ab (by rw [bL];omega) rfl) ?_)))
      refine ax rfl rfl (cY _ aa rfl rfl) (ax rfl rfl (bC _ aa rfl (by exact iu _ _ ab) rfl) ?_)
      refine ax rfl rfl (bP _ _ rfl rfl rfl) (ai (aD _ _ _ rfl (rfl:_=AV.v (.bool _))) (cm rfl (fc (an (aQ rfl (ai (bc _ _ rfl rfl (bp ab)) ?_))))))
      refine aZ rfl (az (⟨j+1,?_,?_,?_⟩))
      ·omega
      ·skip
       refine Le.mkJ [] [] rfl ?_ ?_ trivial trivial ?_
       ·exact ⟨(iS rfl),(iS rfl),(iP rfl),(iV rfl),(iP rfl),(gz (by (rw [t1,t3];simp_all))),(ci ag),trivial⟩
       ·exact ⟨(cD rfl rfl rfl),(cD rfl rfl rfl),trivial⟩
       ·kernel_rfl
      ·omega
   ·skip
    obtain rfl:j=cv.length:=by omega
    have hst2:s.fin=true→(cv.take cv.length).any (ta M.P.c)=true:=by rw [List.take_length];exact hst
    refine bK (id (hK14 _ ?_))
    clear hK14;try clear K14
    refine aq ?_
    refine aN (σ':=aB 116 [(1,_),(2,_),(7,_),(8,_),(9,_),(12,_)] [((7,0),_),((9,0),_)] [] []) kp ?_
    refine bG 17 [98,99,100,101,102,103,104,105,106,107,108,109,110,111,112,113,114] [] ae ae rfl (aL rfl) (rfl:_=[_,_,_,_,_,_,_,_,_,_,_,_,_,_,_,_,_]) (rfl:_=[]) ?_
    refine ap (_,[]) (fun τ=> aJ _ aa rfl rfl rfl) ?_
    refine eK rfl ?_
    refine ap (_,[]) (fun τ=> aM _ aa rfl rfl (rfl:_=some (AV.sl _ _))) ?_
    refine eJ rfl ?_
    refine ap (_,[]) (fun τ=> aE _ (rfl:_=AV.v (.int _ _))) ?_
    refine eI rfl ?_
    refine ap (_,[]) (fun τ=> aJ _ aa rfl rfl rfl) ?_
    refine eO rfl ?_
    refine ap (_,[]) (fun τ=> ek _ _ aa rfl rfl rfl k rfl ab (by exact congrArg (fun z=> 0+1+z) (Nat.mul_one k))) ?_
    refine fa rfl ?_
    refine ap (_,[]) (fun τ=> aM _ aa rfl rfl (by exact (congrArg (fun z=> (ym M.P.c.length (inl M.P.c) M.P.e (M.P.d:Int) (M.P.v:Int))[z]?) ab).trans hgk)) ?_
    refine fC rfl ?_
    refine ap (_,[]) (fun τ=> (aK aa al (vg _ _ ab) rfl rfl)) ?_
    refine gv rfl ?_
    refine ap (_,[]) (fun τ=> cR (r:=false) _ rfl (by simp [hen])) ?_
    refine jI rfl ?_
    refine ap (_,[]) (fun τ=> aE _ (rfl:_=AV.v (.bool _))) ?_
    refine jQ rfl ?_
    refine bN (_,[]) rfl (fun τ=> rfl) (fun τ=> aJ _ aa rfl rfl rfl) ?_
    refine fW rfl ?_
    refine bN (_,[]) rfl (fun τ=> rfl) (fun τ=> aM _ aa rfl rfl (rfl:_=some (AV.v (.bool _)))) ?_
    refine gx rfl ?_
    refine bN (_,[]) rfl (fun τ=> rfl) (fun τ=> cR (r:=s.fin) _ rfl (Bool.not_not _)) ?_
    refine kA rfl ?_
    refine bN (_,[]) rfl (fun τ=> rfl) (fun τ=> aE _ (rfl:_=AV.v (.bool _))) ?_
    refine kq (fun hg110=> ?_) (fun hg110=> ?_)
    ·skip
     have hst3:=hst2 hg110
     refine kx rfl ?_
     refine bN (_,[]) rfl (fun τ=> rfl) (fun τ=> aE _ (rfl:_=AV.v (.bool _))) ?_
     refine mO rfl ?_
     refine bN (_,[]) rfl (fun τ=> rfl) (fun τ=> cR (r:=false) _ rfl (by rw [hst3];rfl)) ?_
     refine sd rfl ?_
     refine bN (_,[]) rfl (fun τ=> rfl) (fun τ=> aD _ _ _ rfl (rfl:_=AV.v (.bool _))) ?_
     refine so rfl ?_
     refine ap (_,[]) (fun τ=> aD _ _ _ rfl (rfl:_=AV.v (.bool _))) ?_
     refine sB rfl (bh ⟨rfl,?_⟩)
     refine aj (aP rfl rfl (bu (hK7 _ ?_)))
     clear hK7;try clear K7
     refine aN (σ':=aB 116 [(1,_),(2,_),(7,_),(8,_)] [((7,0),_)] [] []) kp ?_
     refine an (aQ rfl (ai (bc _ _ rfl rfl (bp ab)) ?_))
     refine aZ rfl (az (⟨k+1,?_,?_,?_⟩))
     ·omega
     ·skip
      refine Le.mkJ [] [] rfl ?_ ?_ trivial trivial ?_
      ·exact ⟨(iS rfl),(iS rfl),(iP rfl),(ci ag),trivial⟩
      ·exact ⟨(cD rfl rfl rfl),trivial⟩
      ·kernel_rfl
     ·omega
    ·skip
     refine kx rfl ?_
     refine cH rfl (fun τ=> rfl) ah ?_
     refine mO rfl ?_
     refine cH rfl (fun τ=> rfl) ah ?_
     refine sd rfl ?_
     refine bN (_,[]) rfl (fun τ=> rfl) (fun τ=> aD _ _ _ rfl (rfl:_=AV.v (.bool _))) ?_
     refine so rfl ?_
     refine ap (_,[]) (fun τ=> aD _ _ _ rfl (rfl:_=AV.v (.bool _))) ?_
     refine sB rfl (bh ⟨rfl,?_⟩)
     refine aj (aP rfl rfl (bu (hK7 _ ?_)))
     clear hK7;try clear K7
     refine aN (σ':=aB 116 [(1,_),(2,_),(7,_),(8,_)] [((7,0),_)] [] []) kp ?_
     refine an (aQ rfl (ai (bc _ _ rfl rfl (bp ab)) ?_))
     refine aZ rfl (az (⟨k+1,?_,?_,?_⟩))
     ·omega
     ·skip
      refine Le.mkJ [] [] rfl ?_ ?_ trivial trivial ?_
      ·exact ⟨(iS rfl),(iS rfl),(iP rfl),(ci ag),trivial⟩
      ·exact ⟨(cD rfl rfl rfl),trivial⟩
      ·kernel_rfl
     ·omega
 ·skip
  refine bK (id (hK3 _ ?_))
  clear hK3;try clear K3
  refine am (ai (aK aa (by repeat' (exact dL)) (sQ) rfl rfl) ?_)
  exact cm rfl (aj (aC (aY (.inr rfl) rfl (.tmp (rfl:_=AV.v _)) (Le.out [] [] .v rfl rfl rfl trivial trivial))))

theorem qB (n0:Nat) (p:List Int) (h0:p.length=n0) (g0:n0≤4611686018427387904) (r0:Rng p) (n1:Nat) (v:List Int) (h1:v.length=n1) (g1:n1≤4611686018427387904) (r1:Rng v)
    (n2:Nat) (b:List Int) (h2:b.length=n2) (g2:n2≤4611686018427387904) (r2:Rng b):
    Spec Tryz.prog 8 (bj [.sl n0 (dk p), .sl n1 (dk v), .sl n2 (dk b)] []) (aX (.v (.bool true)) []):=by
  subst h0;subst h1;subst h2
  exact oN p v b ⟨g0,r0⟩ ⟨g1,r1⟩ ⟨g2,r2⟩
end Go.Proofs.YtmjnackchaahbaaGreat
