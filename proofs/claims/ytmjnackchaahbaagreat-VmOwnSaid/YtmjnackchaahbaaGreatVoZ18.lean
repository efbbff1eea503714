/- Part 18 of the texts that the walk leans on: the machine, the walks, the plain laws. -/
import Derived.Shelf.SlIterI.Nil
import Derived.Shelf.SortM.Plain
import Derived.Shelf.SortM.SortNone
import Derived.Ground.GgzProg
import Derived.Ground.SlgmProg
import Derived.Test.YtmjnackchaahbaaGreatVoZ17
set_option linter.unusedSimpArgs false
set_option linter.unusedVariables false
namespace Go.Proofs.YtmjnackchaahbaaGreat
open Go.RowKit Go.Maps Go.Sort Go.Shelf

def mK:Go.Shelf.Ren:=⟨fun | 7=> 95 | 10=> 158 | n=> n,fun | 23=> 175 | 26=> 3 | 3=> 176 | 28=> 179 | 0=> 0 | 27=> 178 | 33=> 216 | 4=> 4 | n=> n,fun | n=> n⟩
theorem Bw:Go.Proofs.SlLaysZI.n7 Tryz.prog mK:=
  { mixed:=by kernel_rfl,
    f7:=⟨Tryz.f95.name,by decide,Tryz.func95.trans (congrArg some ae)⟩,
    f10:=⟨Tryz.f158.name,by decide,Tryz.func158.trans (congrArg some ae)⟩,
    t0:=Tryz.underlying0,
    a0:=Tryz.isAgg0,
    z0:=Tryz.sizeOf0,
    v0:=Tryz.zeroValue0,
    t4:=Tryz.underlying4,
    a4:=Tryz.isAgg4,
    z4:=Tryz.sizeOf4,
    v4:=Tryz.zeroValue4,
    t23:=Tryz.underlying175,
    a23:=Tryz.isAgg175,
    z23:=Tryz.sizeOf175,
    v23:=Tryz.zeroValue175,
    t26:=Tryz.underlying3,
    a26:=Tryz.isAgg3,
    z26:=Tryz.sizeOf3,
    v26:=Tryz.zeroValue3,
    t27:=Tryz.underlying178,
    a27:=Tryz.isAgg178,
    z27:=Tryz.sizeOf178,
    v27:=Tryz.zeroValue178,
    t28:=Tryz.underlying179,
    a28:=Tryz.isAgg179,
    z28:=Tryz.sizeOf179,
    v28:=Tryz.zeroValue179,
    t33:=Tryz.underlying216,
    a33:=Tryz.isAgg216,
    z33:=Tryz.sizeOf216,
    v33:=Tryz.zeroValue216 }
def kD:Go.Shelf.Ren:=⟨fun | 6=> 94 | 8=> 156 | 9=> 157 | 11=> 191 | 13=> 193 | 12=> 192 | 23=> 219 | 24=> 220 | 14=> 211 | 15=> 212 | 16=> 213 | 17=> 214 | 18=> 215 | 19=> 216 | 20=> 207 | 21=> 217 | 22=> 218 | 25=> 230 | 26=> 231 | 27=> 232 | 28=> 233 | 29=> 234 | 30=> 228 | 31=> 239 | n=> n,fun | 26=> 3 | 28=> 179 | 24=> 22 | 0=> 0 | 3=> 3 | 37=> 243 | 48=> 260 | 50=> 262 | 4=> 4 | 40=> 254 | 39=> 253 | 45=> 193 | 5=> 5 | 9=> 9 | 51=> 265 | 55=> 269 | 57=> 272 | 58=> 273 | 33=> 216 | n=> n,fun | n=> n⟩
theorem uS:Go.Proofs.SlLaysZI.n6 Tryz.prog kD:=
  { mixed:=by kernel_rfl,
    f6:=⟨Tryz.f94.name,by decide,Tryz.func94.trans (congrArg some ae)⟩,
    f8:=⟨Tryz.f156.name,by decide,Tryz.func156.trans (congrArg some ae)⟩,
    f11:=⟨Tryz.f191.name,by decide,Tryz.func191.trans (congrArg some ae)⟩,
    t0:=Tryz.underlying0,
    a0:=Tryz.isAgg0,
    z0:=Tryz.sizeOf0,
    v0:=Tryz.zeroValue0,
    t24:=Tryz.underlying22,
    a24:=Tryz.isAgg22,
    z24:=Tryz.sizeOf22,
    v24:=Tryz.zeroValue22,
    t26:=Tryz.underlying3,
    a26:=Tryz.isAgg3,
    z26:=Tryz.sizeOf3,
    v26:=Tryz.zeroValue3,
    t28:=Tryz.underlying179,
    a28:=Tryz.isAgg179,
    z28:=Tryz.sizeOf179,
    v28:=Tryz.zeroValue179,
    i26:=by kernel_rfl }
def qY:Go.Shelf.Ren:=⟨fun | 5=> 157 | 8=> 193 | 7=> 192 | 19=> 219 | 20=> 220 | 10=> 211 | 11=> 212 | 12=> 213 | 13=> 214 | 14=> 215 | 15=> 216 | 16=> 207 | 17=> 217 | 18=> 218 | 30=> 230 | 31=> 231 | 32=> 232 | 33=> 233 | 34=> 234 | 35=> 228 | 40=> 239 | n=> n,fun | 23=> 22 | 25=> 3 | 3=> 3 | 32=> 243 | 22=> 22 | 0=> 0 | 44=> 260 | 46=> 262 | 4=> 4 | 36=> 254 | 35=> 253 | 41=> 193 | 5=> 5 | 9=> 9 | 53=> 265 | 57=> 269 | 63=> 272 | 64=> 273 | n=> n,fun | n=> n⟩
theorem uw:Go.Proofs.SlLaysM.n5 Tryz.prog qY:=
  { mixed:=by kernel_rfl,
    f5:=⟨Tryz.f157.name,by decide,Tryz.func157.trans (congrArg some ae)⟩,
    f7:=⟨Tryz.f192.name,by decide,Tryz.func192.trans (congrArg some ae)⟩,
    f8:=Tryz.func193.trans (congrArg some ae),
    f10:=⟨Tryz.f211.name,by decide,Tryz.func211.trans (congrArg some ae)⟩,
    f11:=⟨Tryz.f212.name,by decide,Tryz.func212.trans (congrArg some ae)⟩,
    f12:=⟨Tryz.f213.name,by decide,Tryz.func213.trans (congrArg some ae)⟩,
    f13:=⟨Tryz.f214.name,by decide,Tryz.func214.trans (congrArg some ae)⟩,
    f14:=⟨Tryz.f215.name,by decide,Tryz.func215.trans (congrArg some ae)⟩,
    f15:=⟨Tryz.f216.name,by decide,Tryz.func216.trans (congrArg some ae)⟩,
    f16:=⟨Tryz.f207.name,by decide,Tryz.func207.trans (congrArg some ae)⟩,
    f17:=⟨Tryz.f217.name,by decide,Tryz.func217.trans (congrArg some ae)⟩,
    f18:=⟨Tryz.f218.name,by decide,Tryz.func218.trans (congrArg some ae)⟩,
    f19:=Tryz.func219.trans (congrArg some ae),
    f20:=Tryz.func220.trans (congrArg some ae),
    f30:=⟨Tryz.f230.name,by decide,Tryz.func230.trans (congrArg some ae)⟩,
    f31:=Tryz.func231.trans (congrArg some ae),
    f32:=Tryz.func232.trans (congrArg some ae),
    f33:=⟨Tryz.f233.name,by decide,Tryz.func233.trans (congrArg some ae)⟩,
    f34:=⟨Tryz.f234.name,by decide,Tryz.func234.trans (congrArg some ae)⟩,
    f35:=⟨Tryz.f228.name,by decide,Tryz.func228.trans (congrArg some ae)⟩,
    f40:=⟨Tryz.f239.name,by decide,Tryz.func239.trans (congrArg some ae)⟩,
    t0:=Tryz.underlying0,
    a0:=Tryz.isAgg0,
    z0:=Tryz.sizeOf0,
    v0:=Tryz.zeroValue0,
    t3:=Tryz.underlying3,
    a3:=Tryz.isAgg3,
    z3:=Tryz.sizeOf3,
    v3:=Tryz.zeroValue3,
    t4:=Tryz.underlying4,
    a4:=Tryz.isAgg4,
    z4:=Tryz.sizeOf4,
    v4:=Tryz.zeroValue4,
    t5:=Tryz.underlying5,
    a5:=Tryz.isAgg5,
    z5:=Tryz.sizeOf5,
    v5:=Tryz.zeroValue5,
    t9:=Tryz.underlying9,
    a9:=Tryz.isAgg9,
    z9:=Tryz.sizeOf9,
    v9:=Tryz.zeroValue9,
    t22:=Tryz.underlying22,
    a22:=Tryz.isAgg22,
    z22:=Tryz.sizeOf22,
    v22:=Tryz.zeroValue22,
    t23:=Tryz.underlying22,
    a23:=Tryz.isAgg22,
    z23:=Tryz.sizeOf22,
    v23:=Tryz.zeroValue22,
    t25:=Tryz.underlying3,
    a25:=Tryz.isAgg3,
    z25:=Tryz.sizeOf3,
    v25:=Tryz.zeroValue3,
    t32:=Tryz.underlying243,
    a32:=Tryz.isAgg243,
    z32:=Tryz.sizeOf243,
    v32:=Tryz.zeroValue243,
    t35:=Tryz.underlying253,
    a35:=Tryz.isAgg253,
    z35:=Tryz.sizeOf253,
    v35:=Tryz.zeroValue253,
    t36:=Tryz.underlying254,
    a36:=Tryz.isAgg254,
    z36:=Tryz.sizeOf254,
    v36:=Tryz.zeroValue254,
    t41:=Tryz.underlying193,
    a41:=Tryz.isAgg193,
    z41:=Tryz.sizeOf193,
    v41:=Tryz.zeroValue193,
    t44:=Tryz.underlying260,
    a44:=Tryz.isAgg260,
    z44:=Tryz.sizeOf260,
    v44:=Tryz.zeroValue260,
    t46:=Tryz.underlying262,
    a46:=Tryz.isAgg262,
    z46:=Tryz.sizeOf262,
    v46:=Tryz.zeroValue262,
    t53:=Tryz.underlying265,
    a53:=Tryz.isAgg265,
    z53:=Tryz.sizeOf265,
    v53:=Tryz.zeroValue265,
    t57:=Tryz.underlying269,
    a57:=Tryz.isAgg269,
    z57:=Tryz.sizeOf269,
    v57:=Tryz.zeroValue269,
    t63:=Tryz.underlying272,
    a63:=Tryz.isAgg272,
    z63:=Tryz.sizeOf272,
    v63:=Tryz.zeroValue272,
    t64:=Tryz.underlying273,
    a64:=Tryz.isAgg273,
    z64:=Tryz.sizeOf273,
    v64:=Tryz.zeroValue273 }
theorem CS (m:Nat):AnyZI.SortsIn Tryz.prog kD Fence.wide m:=
  ⟨fun blk off cap ss W hH hblk hsz=> callsIn_wide.2 (AnyM.slices_Sort_int uw blk off cap ss W hH hblk hsz),
   fun p cap W=> callsIn_wide.2 (AnyM.slices_Sort_int_none uw p cap W)⟩
abbrev Eg:Value→Option (DataW Unit×List MemPlace):=fun _=> some (.nil,[])
theorem xZ (M:List (Int×Value)):(eb M).map (fun x=> x.key)=M.map fun p=> Value.int .i64 p.1:=by
  apply List.ext_getElem?
  intro j
  rw [List.getElem?_map,iE,List.getElem?_map]
  cases M[j]? <;> rfl
theorem pz (M:List (Int×Value)):(eb M).map (fun x=> x.born)=List.range M.length:=by
  apply List.ext_getElem?
  intro j
  rw [List.getElem?_map,iE]
  by_cases h:j < M.length
  · rw [List.getElem?_eq_getElem h,List.getElem?_range h];rfl
  · rw [List.getElem?_eq_none ab,List.getElem?_eq_none (by simp;omega)];rfl
theorem xC {M:List (Int×Value)} {x:MapEntry} (h:x∈eb M): ∃ p∈M,x.key= .int .i64 p.1:=by
  obtain ⟨j,hj⟩:=List.getElem?_of_mem h
  rw [iE] at hj
  obtain ⟨p,hp,rfl⟩:=Option.map_eq_some_iff.1 hj
  exact ⟨p,List.mem_of_getElem? hp,rfl⟩
theorem CF {a:Int} (h:0≤a∧a≤1000000):(Lit.int .i64 a).wf=true:=by
  have h1:IntKind.i64.min= -9223372036854775808:=by decide
  have h2:IntKind.i64.max=9223372036854775807:=by decide
  simp only [Lit.wf,h1,h2,Bool.and_eq_true,decide_eq_true_eq]
  omega
theorem BB {P:Program} {a:Int} (hk:P.underlying 3=some (.int .i64)) (h:0≤a∧a≤1000000):keyOf P 3 (.int .i64 a)=some (.int .i64 a):=keyOf_int_mk hk (CF h)
theorem Fa:Cc:=by
  intro M g b w hlen hnd hrg hlt hcell hb
  have hk3:Tryz.prog.underlying 3=some (.int .i64):=Tryz.underlying3
  have hlen2:(eb M).length=M.length:=yL M
  have hrd: ∀ x∈eb M,∃ p∈M,Go.WideElems.rd Tryz.prog 3 Eg x=some (.int .i64 p.1, .nil)∧x.key= .int .i64 p.1:=by
    intro x hx
    obtain ⟨p,hp,hkx⟩:=xC hx
    refine ⟨p,hp,?_,hkx⟩
    have:=Go.WideElems.rd_mk (P:=Tryz.prog) (k:=3) (R:=Eg) (val:=x.val) (born:=x.born) (BB hk3 (hrg p hp)) (yv:=(.nil,[])) rfl
    rw [← hkx] at this
    exact this
  obtain ⟨E,hE⟩: ∃ E,E=((eb M).map (Go.WideElems.rg Tryz.prog 3 Eg)).foldr DataW.insert []:=⟨_,rfl⟩
  have hperm:E.Perm ((eb M).map (Go.WideElems.rg Tryz.prog 3 Eg)):=by rw [hE];exact Go.WideShapes.sorted_perm _
  have hkeys:((eb M).map (Go.WideElems.rg Tryz.prog 3 Eg)).map (fun p=> Go.intOf p.1)=M.map (·.1):=by
    apply List.ext_getElem?
    intro j
    rw [List.getElem?_map,List.getElem?_map,List.getElem?_map]
    cases hj:(eb M)[j]? with
    | none=>
      rw [iE] at hj
      have:=Option.map_eq_none_iff.1 hj
      rw [this];rfl
    | some x=>
      obtain ⟨q,_,h1,h2⟩:=hrd x (List.mem_of_getElem? hj)
      rw [iE] at hj
      obtain ⟨p,hp,rfl⟩:=Option.map_eq_some_iff.1 hj
      rw [hp]
      simp only [Option.map_some,Go.WideElems.rg_of h1,Go.intOf]
      have h2:Value.int .i64 p.1=Value.int .i64 q.1:=h2
      have h3:p.1=q.1:=by injection h2
      rw [h3]
  have hown:w.ownsMap Tryz.prog 3 Eg b M.length (.map E):=by
    refine ⟨(eb M).toArray,M.length,hb,⟨by simp only [List.size_toArray];rw [hlen2];unfold maxLen;omega,⟨?_,?_,?_⟩,fun x hx=> ?_⟩,by simp only [List.size_toArray];omega,by rw [hE]⟩
    · intro x hx
      have h1:x.born∈(eb M).map (fun x=> x.born):=List.mem_map_of_mem (by simpa using hx)
      rw [pz] at h1
      simpa using h1
    · show ((eb M).map (fun x=> x.born)).Nodup
      rw [pz];exact List.nodup_range
    · show ((eb M).map (fun x=> x.key)).Nodup
      rw [xZ]
      have:(M.map fun p=> Value.int .i64 p.1)=(M.map (·.1)).map (fun n=> Value.int .i64 n):=by rw [List.map_map];rfl
      rw [this]
      exact hnd.map (fun n=> Value.int .i64 n) fun a b h e=> h (by cases e;rfl)
    · obtain ⟨p,_,h1,_⟩:=hrd x (by simpa using hx)
      exact ⟨_,h1⟩
  have hsz:Maps.size (.map E:DataW Unit)=M.length:=by
    show E.length=_
    rw [hperm.length_eq,List.length_map,hlen2]
  have hseq:SeqGives Fence.wide 2 Tryz.prog 158 #[.pointer (some ⟨g,0,none⟩)] encZ (fun ss=> ss.Perm (intKeys (.map E:DataW Unit))) (Maps.size (.map E:DataW Unit)) w:=
    AnyZI.keys_gives (ρ:=mK) { Bw with } Fence.wide 2 trivial rfl ab g b M.length (.map E) w hlt hcell hown
  have cS:=AnyZI.sorted_in uS Fence.wide 5 trivial trivial trivial trivial rfl ab (CS _) (enters_of Tryz.func157 ae rfl) 158 #[.pointer (some ⟨g,0,none⟩)] trivial (enters_of Tryz.func158 ae rfl) _ _ (by rw [hsz];unfold maxLen;omega) (by rw [hsz];omega) _ hseq
  change CallsIn _ _ Tryz.prog 94 _ _ _ at cS
  refine ((callsIn_wide (n:=5)).1 cS).mono ?_
  rintro e w' ⟨v,ss,rfl,hS,hrow,_,hbl⟩
  refine ⟨v,ss,rfl,?_,hrow,hbl⟩
  have h1:ss.Perm (E.map fun p=> Go.intOf p.1):=hS
  have h2:=hperm.map (fun p=> Go.intOf p.1)
  rw [hkeys] at h2
  exact h1.trans h2
theorem Ca:uz:=yK Fa

def qu (l:List Int) (x:Int):List Int:=if x∈l then l else l.takeWhile (fun y=> decide (y < x))++[x]++l.dropWhile (fun y=> decide (y < x))

def sS (l:List Nat):List Int:=l.foldl (fun m (i:Nat)=> qu m (i:Int)) []

theorem wt {l:List Int} {x:Int} (h:x∉l):(qu l x).Perm (l++[x]):=by
 unfold qu
 rw [if_neg h]
 have e:=List.takeWhile_append_dropWhile (p:=fun y=> decide (y < x)) (l:=l)
 conv=> rhs;rw [← e]
 rw [List.append_assoc,List.append_assoc]
 exact List.Perm.append_left _ List.perm_append_comm
theorem uq {p:Int→Bool}: ∀ {l:List Int} {y:Int},y∈l.takeWhile p→p y=true
 | a::l,y,h=> by
  rw [List.takeWhile_cons] at h
  split at h
  ·rename_i ha
   rcases List.mem_cons.1 h with rfl | h
   ·exact ha
   ·exact uq h
  ·cases h
theorem yS {l:List Int} {x:Int} (h:l.Pairwise (· < ·)):(qu l x).Pairwise (· < ·):=by
 unfold qu
 split
 ·exact h
 ·rename_i hx
  have e:=List.takeWhile_append_dropWhile (p:=fun y=> decide (y < x)) (l:=l)
  have h':=h
  rw [← e] at h'
  obtain ⟨h1,h2,h3⟩:=List.pairwise_append.1 h'
  have ht: ∀ y∈l.takeWhile (fun y=> decide (y < x)),y < x:=fun y hy=> by
   have:=uq hy
   simpa using this
  have hd: ∀ y∈l.dropWhile (fun y=> decide (y < x)),x < y:=by
   intro y hy
   have hyl:y∈l:=by rw [← e];exact List.mem_append_right _ hy
   have hne:y≠x:=fun e=> hx (e ▸ hyl)
   cases hdw:l.dropWhile (fun y=> decide (y < x)) with
   | nil=> rw [hdw] at hy;cases hy
   | cons a t=>
    have ha: ¬ a < x:=by
     have:=List.head_dropWhile_not (p:=fun y=> decide (y < x)) (l:=l) (by rw [hdw];simp)
     simp only [hdw,List.head_cons] at this
     simpa using this
    rw [hdw] at hy h2
    rcases List.mem_cons.1 hy with rfl | hy
    ·omega
    ·have:=List.rel_of_pairwise_cons h2 hy;omega
  refine List.pairwise_append.2 ⟨List.pairwise_append.2 ⟨h1,by simp,fun a ha b hb=> ?_⟩,h2,fun a ha b hb=> ?_⟩
  ·rw [List.mem_singleton.1 hb];exact ht a ha
  ·rcases List.mem_append.1 ha with ha | ha
   ·exact h3 a ha b hb
   ·rw [List.mem_singleton.1 ha];exact hd b hb
theorem pF: ∀ (l:List Nat) (m:List Int) (M:List (Int×Value)),m.Perm (M.map (·.1))→(l.foldl (fun m (i:Nat)=> qu m (i:Int)) m).Perm ((l.foldl (fun M (i:Nat)=> fU M (i:Int) (.agg #[])) M).map (·.1))
 | [],_,_,h=> h
 | i::l,m,M,h=> pF l _ _ (by
  show (qu m (i:Int)).Perm ((fU M (i:Int) (.agg #[])).map (·.1))
  cases hg:lC M (i:Int) with
  | none=>
   have hn:(i:Int)∉m:=fun hm=> tI hg (h.mem_iff.1 hm)
   have e:fU M (i:Int) (.agg #[])=M++[((i:Int), .agg #[])]:=by unfold fU;rw [hg];rfl
   rw [e,List.map_append]
   exact (wt hn).trans (h.append_right _)
  | some u=>
   have hm:(i:Int)∈m:=h.mem_iff.2 (List.mem_map.2 ⟨_,sy hg,rfl⟩)
   have e:fU M (i:Int) (.agg #[])=M:=by unfold fU;rw [hg];rfl
   rw [e]
   unfold qu
   rw [if_pos hm];exact h)
theorem ra: ∀ (l:List Nat) (m:List Int),m.Pairwise (· < ·)→(l.foldl (fun m (i:Nat)=> qu m (i:Int)) m).Pairwise (· < ·)
 | [],_,h=> h
 | _::l,_,h=> ra l _ (yS h)
theorem Dj (l:List Nat):sS l=gK (kf l):=by
 have hp:(sS l).Perm ((kf l).map (·.1)):=pF l [] [] (.refl _)
 have hs:(sS l).Pairwise (· < ·):=ra l [] .nil
 have h1:=qS hp
 have h2:(sS l).mergeSort (fun x y=> decide (x≤y))=sS l:=List.mergeSort_of_pairwise (hs.imp fun h=> by simp only [decide_eq_true_eq];omega)
 rw [← h2,h1];rfl

set_option maxHeartbeats 1000000 in
theorem tz (M:Mk) (h:Nat) (hh:h < 40) (he:M.P.e h < 0) (h0:0 < M.iv.length) (h1:M.iv.length≤1000):
  Spec Tryz.prog 59 (bc [rz M.P, .v (.int .i64 (h:Int)), .agg [.sl M.iv.length (cR M.iv), .v (.int .i64 (M.nm 0)), .v (.int .i64 (M.nm 1)), .v (.int .i64 (M.nm 2)), .v (.int .i64 (M.nm 3)), .v (.int .i64 (M.nm 4)), .v (.int .i64 (M.nm 5)), .v (.int .i64 (M.nm 6)), .v (.int .i64 (M.nm 7)), .v (.int .i64 (M.nm 8))],xD (4,9)] (uB M.ans [] (5,9))) (bj (.agg [.sl M.iv.length (cR M.iv), .sl 0 [], .v (.int .i64 0), .v (.bool false), .sl 0 []]) (uB M.ans [] (5,8)) [(4,9),(5,8)] [(4,9)]):=by
 have hcl:=jq M.iv ab ab
 have hg:=mf M.P.c.length (inl M.P.c) M.P.e (M.P.d:Int) (M.P.v:Int) h hh
 refine Spec.ofNI Tryz.func59 rfl Tryz.ntmps59 rfl ?_
 refine am (ai (bf (4,0) _ rfl rfl) (ai (bf (6,0) _ rfl rfl) (ai (ax (8,0) aa rfl rfl) (aj (aq (bE 11 [13,14,15,16,17,18,19,20,21,22,23] [(22,0)] ae ae rfl (aK rfl) (rfl:_=[_,_,_,_,_,_,_,_,_,_,_]) (rfl:_=[_,_,_]) ?_))))))
 refine ap (_,[]) (fun τ=> aP _ aa rfl rfl rfl rfl) ?_
 refine eE rfl ?_
 refine ap (_,[]) (fun τ=> aP _ aa rfl rfl rfl rfl) ?_
 refine eF rfl ?_
 refine ap (_,[]) (fun τ=> aE _ (rfl:_=AV.fn _ _ _)) ?_
 refine eD rfl ?_
 refine ap (_,[]) (fun τ=> aE _ (rfl:_=AV.v (.int _ _))) ?_
 refine eI rfl ?_
 refine ap (_,[]) (fun τ=> aI _ aa rfl rfl rfl) ?_
 refine eU rfl ?_
 refine ap (_,[]) (fun τ=> eg _ _ aa rfl rfl rfl h rfl ab (by exact congrArg (fun z=> 0+1+z) (Nat.mul_one h))) ?_
 refine fh rfl ?_
 refine ap (_,[]) (fun τ=> aL _ aa rfl rfl (by exact (congrArg (fun z=> (yf M.P.c.length (inl M.P.c) M.P.e (M.P.d:Int) (M.P.v:Int))[z]?) ab).trans hg)) ?_
 refine fZ rfl ?_
 refine ap (_,[]) (fun τ=> aI _ aa rfl rfl rfl) ?_
 refine jz rfl ?_
 refine ap (_,[]) (fun τ=> aL _ aa rfl rfl (rfl:_=some (AV.sl _ _))) ?_
 refine jC rfl ?_
 refine ap (_,[((22,0),_)]) (fun τ=> (cQ aa [((0,8),(22,0))] ar (hcl.toI) trivial tr tr rfl rfl ae ae)) ?_
 refine fK rfl ?_
 refine ap (_,[]) (fun τ=> ay _ aa rfl (by exact (rfl:_=some [AV.ref (22,0) 0 M.iv.length,AV.v (.slice none 0 0),AV.v (.int .i64 0),AV.v (.bool false),AV.v (.slice none 0 0)]))) ?_
 refine gl rfl (bi ⟨rfl,?_⟩)
 refine ai (ay _ aa rfl (by exact (rfl:_=some [_,_,_,_,_,_,_,_,_,_,_,_,_,_,_,_,_,_,_,_,_,_,_,_,_,_,_,_,_,_,_,_,_,_,_,_,_,_,_,_,_,_,_,_,_,_,_,_,_,_,_,_,_,_,_,_,_,_,_,_,_,_,_,_]))) ?_
 refine ai (bf (25,0) _ rfl rfl) (zm rfl (aj (aq (aq ?_))))
 refine aO (σ':=aB 108 [(4,_),(8,_),(9,_)] [((4,9),_),((5,9),_),((4,0),_),((8,0),_),((22,0),_),((25,0),_)] [(4,9),(5,9)] [(4,9)]) kp ?_
 refine an (bh rfl (ai (aN _ rfl rfl) (bv rfl rfl rfl (cG rfl rfl rfl (ai (bq (r:=true) _ _ rfl rfl (decide_eq_true he)) ?_)))))
 exact aj (bF rfl rfl (am (bh rfl (ai (aN _ rfl rfl) (bv rfl rfl rfl (ai (aP _ aa rfl rfl rfl rfl) (bL rfl rfl rfl rfl rfl rfl (aj (aD (aY (.inr rfl) rfl (.cellA aa rfl rfl rfl) (Le.outI [((5,8),(5,9))] [(22,0)] (.agg rfl (aC (gQ rfl rfl (by simp) rfl) lz)) rfl rfl rfl tr ob tr rfl)))))))))))
set_option maxHeartbeats 1000000 in
theorem rD (M:Mk) (D:Nat→Nat) (nv:Nat) (hK:PG M.cx D nv) (h:Nat) (hh:h < 40) (e0:Nat) (he:M.P.e h=(e0:Int)) (he2:e0 < M.P.c.length) (hD:D e0=0) (hiv:M.iv.length=nv) (hir: ∀ v∈M.iv,Rg v) (h0:0 < nv) (hc:M.P.c.length≤1000000) (hn:M.ans.length≤4611686018427387904) (R:Ms) (hR:R=jy M.cx 500 (eP M.iv e0)):
  Spec Tryz.prog 24 (bk [rz M.P, .v (.int .i64 (h:Int)), .sl M.iv.length (cR M.iv), .agg [.v (.int .i64 (M.nm 0)), .v (.int .i64 (M.nm 1)), .v (.int .i64 (M.nm 2)), .v (.int .i64 (M.nm 3)), .v (.int .i64 (M.nm 4)), .v (.int .i64 (M.nm 5)), .v (.int .i64 (M.nm 6)), .v (.int .i64 (M.nm 7)), .v (.int .i64 (M.nm 8))], .sl M.ans.length (cR M.ans)] []) (aW (.tup [.agg [.sl R.vars.length (cR R.vars), .sl R.acts.length (qI R.acts), .v (.int .i64 (R.steps:Int)), .v (.bool (!R.fin)), .sl (gK (kf R.cov)).length (cR (gK (kf R.cov)))], .sl R.asked.length (cR R.asked), .v (.bool true)]) []):=by
 have hv:=uE M Ca D nv hK h hh e0 he he2 hD hiv hir h0 hc hn R hR
 refine Spec.ofN Tryz.func24 rfl Tryz.ntmps24 rfl ?_
 refine am (ai (bf (5,0) _ rfl rfl) (ai (bf (8,0) _ rfl rfl) (ai (ax (10,0) aa rfl rfl) (ai (bA _ (rfl:_=AV.v (.slice _ _ _))) (cw rfl (aj (am (ez rfl (ai (ay _ aa rfl (by exact (rfl:_=some [_,_,_]))) ?_)))))))))
 refine ai (bf (17,0) _ rfl rfl) (zm rfl (aj (aq ?_)))
 refine aO (Le.nilB (17,0) 1 (62,0) 3 1 rfl rfl rfl) ?_
 refine an (ai (aP _ aa rfl rfl rfl rfl) (aS rfl (ez rfl (ai (aP _ aa rfl rfl rfl rfl) (ai (ay _ aa rfl (by exact (rfl:_=some [_,_,_,_,_,_,_,_,_,_]))) ?_)))))
 refine bh rfl (ai (mQ _ _ (rfl:_=[_]) (rfl:_=[])) ?_)
 refine ai (cQ aa [((4,9),(17,0)),((5,9),(62,0)),((2,8),(25,0)),((5,8),(25,1))] ar (hv) ob tr tr rfl rfl ae ae) ?_
 refine ai (ax (14,0) aa rfl rfl) (bL rfl rfl rfl rfl rfl rfl (aj (aq ?_)))
 refine aO (σ':=aB 35 [(10,_),(13,_),(14,_)] [((10,0),_),((17,0),_),((25,0),_),((25,1),_),((14,0),_)] [] []) kp ?_
 refine ll 12 [26,27,28,29,30,31,32,33,34,11,12] [(10,0)] ae ae rfl (rfl:_=[_,_,_,_,_,_,_,_,_,_,_,_]) (rfl:_=[]) ?_
 refine bN (_,[]) (fun τ=> aP _ aa rfl rfl rfl rfl) ?_
 refine bO (rfl:_=[_]) ?_
 refine bN (_,[]) (fun τ=> aE _ (rfl:_=AV.ptr _ _)) ?_
 refine bO (rfl:_=[_,_]) ?_
 refine bN (_,[]) (fun τ=> aN _ rfl rfl) ?_
 refine bO (rfl:_=[_,_,_]) ?_
 refine bN (_,[]) (fun τ=> aI _ aa rfl rfl rfl) ?_
 refine bO (rfl:_=[_,_,_,_]) ?_
 refine bN (_,[]) (fun τ=> aL _ aa rfl rfl (rfl:_=some (AV.ref _ _ _))) ?_
 refine bO (rfl:_=[_,_,_,_,_]) ?_
 refine bN (_,[]) (fun τ=> aE _ (rfl:_=AV.ptr _ _)) ?_
 refine bO (rfl:_=[_,_,_,_,_,_]) ?_
 refine bN (_,[]) (fun τ=> aN _ rfl rfl) ?_
 refine bO (rfl:_=[_,_,_,_,_,_,_]) ?_
 refine bN (_,[]) (fun τ=> aI _ aa rfl rfl rfl) ?_
 refine bO (rfl:_=[_,_,_,_,_,_,_,_]) ?_
 refine bN (_,[]) (fun τ=> aL _ aa rfl rfl (rfl:_=some (AV.v (.bool _)))) ?_
 refine bO (rfl:_=[_,_,_,_,_,_,_,_,_]) ?_
 refine bN (_,[((10,0),_)]) (fun τ=> ip _ _ aa rfl rfl rfl rfl (Nat.le_of_ble_eq_true rfl) rfl) ?_
 refine bO (rfl:_=[_,_,_,_,_,_,_,_,_,_]) ?_
 refine bN (_,[]) (fun τ=> bA _ (rfl:_=AV.ref _ _ _)) ?_
 refine bO (rfl:_=[_,_,_,_,_,_,_,_,_,_,_]) ?_
 refine bN (_,[]) (fun τ=> bA _ (rfl:_=AV.v (.bool _))) ?_
 refine bO (rfl:_=[_,_,_,_,_,_,_,_,_,_,_,_]) ?_
 refine jP ⟨⟨rfl,by kernel_rfl,by kernel_rfl⟩,?_⟩
 exact aj (aD (uJ (.inr rfl) rfl (.cellA aa rfl rfl rfl) (.tmp (rfl:_=AV.ref _ _ _)) (.tmp (rfl:_=AV.v _)) (Le.out [] [(25,0),(25,1)] (.tup rfl (aC (.agg rfl (aC .sl (aC (gQ rfl rfl (gN _).symm rfl) lz))) (aC (gQ rfl rfl (by simp) rfl) lz))) rfl rfl rfl tr trivial)))

theorem tC (w:World) (a b c d e:Int):(Op.equal 57 (.agg #[.int .i64 a, .int .i64 b, .int .i64 c, .int .i64 d, .int .i64 e]) (.agg #[.int .i64 a, .int .i64 b, .int .i64 c, .int .i64 d, .int .i64 e])).run Tryz.prog w= .ok true w:=by
 have he:Tryz.prog.underlying 3=some (.int .i64):=Tryz.underlying3
 have hp: ∀ (cs:Array Value) (j:Nat) (v:Value),cs[j]? =some v→(part 3 cs j).run Tryz.prog w= .ok v w:=by
  intro cs j v hv
  simp [part,isAgg,run_underlying he,hv]
 have e1: ∀ a:Int,(Op.equalIn 9999 3 (.int .i64 a) (.int .i64 a)).run Tryz.prog w= .ok true w:=fun a=> by
  rw [run_equalIn_int w 9998 3 .i64 .i64 a a he];simp
 have h0:=hp #[.int .i64 a, .int .i64 b, .int .i64 c, .int .i64 d, .int .i64 e] 0 (.int .i64 a) rfl
 have h1:=hp #[.int .i64 a, .int .i64 b, .int .i64 c, .int .i64 d, .int .i64 e] 1 (.int .i64 b) rfl
 have h2:=hp #[.int .i64 a, .int .i64 b, .int .i64 c, .int .i64 d, .int .i64 e] 2 (.int .i64 c) rfl
 have h3:=hp #[.int .i64 a, .int .i64 b, .int .i64 c, .int .i64 d, .int .i64 e] 3 (.int .i64 d) rfl
 have h4:=hp #[.int .i64 a, .int .i64 b, .int .i64 c, .int .i64 d, .int .i64 e] 4 (.int .i64 e) rfl
 show (Op.equalIn (9999+1) 57 _ _).run Tryz.prog w=_
 rw [Op.equalIn]
 simp only [Sem.run_bind,run_underlying Tryz.underlying57,Result.andThen_ok]
 simp [Op.eqFields,h0,h1,h2,h3,h4,e1]
section
variable {σ:St} {dd:Option Tmp} {ty:TypeId}
theorem wX {t':TypeId} (x y:Operand) {a b c d e:Int} (hx:σ.eval x= .agg [.v (.int .i64 a), .v (.int .i64 b), .v (.int .i64 c), .v (.int .i64 d), .v (.int .i64 e)]) (hy:σ.eval y= .agg [.v (.int .i64 a), .v (.int .i64 b), .v (.int .i64 c), .v (.int .i64 d), .v (.int .i64 e)]):Stp Tryz.prog dd (.binOp .neq 57 x y t') ty σ (σ.put dd (.v (.bool false))):=by
 refine Bc [.int .i64 a, .int .i64 b, .int .i64 c, .int .i64 d, .int .i64 e] [.int .i64 a, .int .i64 b, .int .i64 c, .int .i64 d, .int .i64 e] hx hy fun o ρ w ho hx hy=> ?_
 have:=tC w a b c d e
 have hg:Tryz.prog.eqGuardType Tryz.prog.depth 57=false:=by kernel_rfl
 simp [execOp,ho,hx,hy,eqGuard,binOp,hg,this,Sem.run]
end
theorem oP (l:List Ac) (h1:l.length≤1000000):Spec Tryz.prog 34 (bk [.sl l.length (qI l), .sl l.length (qI l)] []) (aW (.v (.bool true)) []):=by
 refine Spec.ofN Tryz.func34 rfl Tryz.ntmps34 rfl ?_
 refine am (cw rfl (aj (aq (am (ez rfl (ai (bH _ aa rfl) (ez rfl (ai (bH _ aa rfl) (ai (cb (r:=false) _ _ rfl rfl (by simp)) ?_)))))))))
 refine aj (aR rfl rfl (aJ (aG fun K4 hK4=> ?_)))
 refine am (aZ rfl (aj (au ?_)))
 refine bB (α:=Nat) (fun k=> k≤l.length) 26 [(0,_),(1,_)] [] (fun k=> [(5, .v (.int .i64 (k:Int)))]) (fun k=> []) [] [] (fun k=> l.length - k) 0 ?_ (by
  refine Le.mkJ [] [] rfl ?_ ?_ trivial trivial ?_
  ·exact ⟨(iS rfl),(iS rfl),(co ag),trivial⟩
  ·exact trivial
  ·kernel_rfl) ?_
 ·omega
 intro k hk
 refine aG fun K6 hK6=> ?_
 refine am (aS rfl (ez rfl (ai (bH _ aa rfl) (ai (bq _ _ rfl rfl rfl) (aj (aV rfl (fun hc14=> ?_) (fun hc14=> ?_)))))))
 ·skip
  have hia:=xV l k ab
  refine bz (hK6 _ ?_)
  clear hK6;try clear K6
  refine aq (au (aq ?_))
  refine aO (σ':=aB 26 [(0,_),(1,_),(5,_)] [] [] []) kp ?_
  refine bE 9 [17,18,19,20,21,22,23,24,25] [] ae ae rfl (aK rfl) (rfl:_=[_,_,_,_,_,_,_,_,_]) (rfl:_=[]) ?_
  refine ap (_,[]) (fun τ=> aE _ (rfl:_=AV.sl _ _)) ?_
  refine eE rfl ?_
  refine ap (_,[]) (fun τ=> aE _ (rfl:_=AV.v (.int _ _))) ?_
  refine eF rfl ?_
  refine ap (_,[]) (fun τ=> bg _ _ aa rfl rfl _ rfl ab (by (simp only [ba,bo,bm,ba,gN,bQ];omega)) ag) ?_
  refine eD rfl ?_
  refine ap (_,[]) (fun τ=> cj _ aa rfl (by exact hia) rfl) ?_
  refine eI rfl ?_
  refine ap (_,[]) (fun τ=> aE _ (rfl:_=AV.sl _ _)) ?_
  refine eU rfl ?_
  refine ap (_,[]) (fun τ=> aE _ (rfl:_=AV.v (.int _ _))) ?_
  refine fh rfl ?_
  refine ap (_,[]) (fun τ=> bg _ _ aa rfl rfl _ rfl ab (by (simp only [ba,bo,bm,ba,gN,bQ];omega)) ag) ?_
  refine fZ rfl ?_
  refine ap (_,[]) (fun τ=> cj _ aa rfl (by exact hia) rfl) ?_
  refine jz rfl ?_
  refine ap (_,[]) (fun τ=> wX _ _ rfl rfl) ?_
  refine jC rfl (bi ⟨rfl,?_⟩)
  refine aj (aR rfl rfl (cg (an (aS rfl (ai (be _ _ rfl rfl (br ab)) ?_)))))
  refine aZ rfl (az (⟨k+1,?_,?_,?_⟩))
  ·omega
  ·skip
   refine Le.mkJ [] [] rfl ?_ ?_ trivial trivial ?_
   ·exact ⟨(iS rfl),(iS rfl),(co ag),trivial⟩
   ·exact trivial
   ·kernel_rfl
  ·omega
 ·skip
  refine bK (id (hK4 _ ?_))
  clear hK4;try clear K4
  refine am (cw rfl (aj (aD (aY (.inr rfl) rfl (.tmp (rfl:_=AV.v (.bool _))) (Le.out [] [] (gR ?_) rfl rfl rfl trivial trivial)))))
  rfl

theorem oK (xs:List Int) (h:xs.length≤1000000):Spec Tryz.prog 30 (bk [.sl xs.length (cR xs), .sl xs.length (cR xs)] []) (aW (.v (.bool true)) []):=by
 have:=wo xs.length xs.length xs xs rfl rfl ab ab
 rw [decide_eq_true rfl] at this;exact this
def wP (n:Int):Int:=([n % 9 - 4,n, -n,2147483647, -2147483647,1,0]:List Int).getD (n % 7).toNat 0
def gH (a:List Int) (n:Nat):List Int:=(List.range n).map fun i=> wP (da a i)
theorem sT (a:List Int) (n:Nat):gH a (n+1)=gH a n++[wP (da a n)]:=by simp [gH,List.range_succ]
theorem kw (a:List Int) (n:Nat):(gH a n).length=n:=by simp [gH]
theorem wU (n:Int) (h0:0≤n):(cR [n % 9 - 4,n, -n,2147483647, -2147483647,1,0])[(n % 7).toNat]? =some (.v (.int .i64 (wP n))):=dY _ _ (by simp;omega)

theorem wm (P:Pg) (a:List Int) (G:GL a) (hd:P.d+P.v≤1000):
  Spec Tryz.prog 22 (bk [rz P, .sl a.length (cR a)] []) (aW (.sl (gH a (P.d+P.v)).length (cR (gH a (P.d+P.v)))) []):=by
 have hpk:=fun i hi=> ou G i hi
 refine Spec.ofN Tryz.func22 rfl Tryz.ntmps22 rfl ?_
 refine am (ai (bf (2,0) _ rfl rfl) (ai (bA _ (rfl:_=AV.v (.slice _ _ _))) (aj (am (ai (oD (5,0) _ 3 1 rfl rfl) ?_)))))
 refine aj (aG fun K3 hK3=> ?_)
 refine am (aZ rfl (aj (au ?_)))
 refine bB (α:=Nat) (fun q=> q≤P.d+P.v) 35 [(1,_),(2,_)] [((2,0),_)] (fun q=> [(6, .v (.int .i64 (q:Int))),(5, .ref (5,0) 0 (gH a q).length)]) (fun q=> [((5,0), .row 3 1 (cR (gH a q)))]) [] [] (fun q=> P.d+P.v - q) 0 ?_ (by
  refine Le.mkJ [] [] rfl ?_ ?_ trivial trivial ?_
  ·exact ⟨(iS rfl),(iP rfl),(co ag),(cX rfl ag),trivial⟩
  ·exact ⟨(cI rfl rfl rfl),(fJ rfl rfl rfl ag),trivial⟩
  ·kernel_rfl) ?_
 ·omega
 intro q hq
 have hq0:=hpk q ab
 have hlo:=sM a q
 have hhi:=tj a q
 have hvl:=kw a q
 have hs:=sT a q
 have hl1:(gH a (q+1)).length=(gH a q).length+1:=by rw [hs];simp
 have hvg:=wU (da a q) hlo
 generalize da a q=x at hq0 hlo hhi hs hvg
 refine aG fun K5 hK5=> ?_
 refine am (aS rfl (bv rfl rfl rfl (cG rfl rfl rfl (bv rfl rfl rfl (cG rfl rfl rfl (ai (be (r:=((P.d+P.v:Nat):Int)) _ _ rfl rfl ((br ab).trans ab)) ?_))))))
 refine ai (bq _ _ rfl rfl rfl) (aj (aV rfl (fun hc14=> ?_) (fun hc14=> ?_)))
 ·skip
  refine bz (hK5 _ ?_)
  clear hK5;try clear K5
  refine aq (au (am (ez rfl (aS rfl (ai (aM aa al (hq0) rfl rfl) ?_)))))
  refine aZ rfl (aj (an (gD rfl (aS rfl (ai (db (r:=x % 9) _ _ rfl rfl ab (Int.tmod_eq_emod_of_nonneg ab)) ?_)))))
  refine ai (ce (r:=x % 9 - 4) _ _ rfl rfl (br ab)) ?_
  refine aS rfl (aS rfl (ai (sO (r:= -x) _ rfl (br ab)) ?_))
  refine ai (aX _ _ aa rfl ag (by (simp <;> rfl)) ah rfl) ?_
  refine aS rfl (ai (db (r:=(((x % 7).toNat:Nat):Int)) _ _ rfl rfl ab ((Int.tmod_eq_emod_of_nonneg ab).trans ab)) ?_)
  refine ai (bg _ _ aa rfl rfl _ rfl ab (by (simp;done)) (by exact Nat.mul_one _)) ?_
  refine ai (bG _ aa rfl (by exact hvg) rfl) ?_
  refine ai (aX _ _ aa rfl ag (by (simp <;> rfl)) ah rfl) ?_
  refine ai (dt (33,0) _ _ aa rfl rfl (by simp) (.sl rfl) ab rfl ((lB _ _).trans (congrArg cR hs.symm)) hl1.symm) ?_
  refine fb rfl (fP ?_)
  refine aO (σ':=aB 35 [(1,_),(2,_),(5,_),(6,_)] [((2,0),_),((33,0),_)] [] []) kp ?_
  refine an (aS rfl (ai (be _ _ rfl rfl (br ab)) ?_))
  refine aZ rfl (az (⟨q+1,?_,?_,?_⟩))
  ·omega
  ·skip
   refine Le.mkJ [((5,0),(33,0))] [] rfl ?_ ?_ trivial trivial ?_
   ·exact ⟨(by repeat' (exact Lv.sl)),(dD (id:=(2,0)) rfl),(co ag),(cX rfl ag),trivial⟩
   ·exact ⟨(fg rfl rfl rfl rfl (by repeat' (first | exact Lv.v | exact Lv.sl | exact bn | refine aC ?_ ?_))),(fJ rfl rfl rfl ag),trivial⟩
   ·kernel_rfl
  ·omega
 ·skip
  obtain rfl:q=P.d+P.v:=by omega
  refine bK (id (hK3 _ ?_))
  clear hK3;try clear K3
  exact am (gD rfl (fb rfl (aj (aD (aY (.inr rfl) rfl (.tmp (rfl:_=AV.ref _ _ _)) (Le.out [] [(5,0)] (gQ rfl rfl (by simp) rfl) rfl rfl rfl tr trivial))))))
def pO (L:List Int) (i:Nat) (m:Int):Int:=if i < L.length then gT (L.getD i 0) m else 0
theorem qv (L:List Int) (i:Nat) {m:Int} (hm:1≤m):0≤pO L i m:=by
 unfold pO;split
 ·exact pE _ _ ab
 ·omega
theorem qt (L:List Int) (i:Nat) {m:Int} (hm:1≤m):pO L i m < m:=by
 unfold pO;split
 ·exact pD _ _ ab
 ·omega
theorem nA {L:List Int} (h:GL L) (i:Nat) (hi:i≤2000000) (m:Int) (hm:1≤m∧m≤1000):
  Spec Tryz.prog 58 (bk [.sl L.length (cR L), .v (.int .i64 (i:Int)), .v (.int .i64 m)] []) (aW (.v (.int .i64 (pO L i m))) []):=by
 have hn:=h.n
 by_cases hk:i < L.length
 ·have hr:=h.r (L.getD i 0) (by rw [List.getD_eq_getElem?_getD,List.getElem?_eq_getElem hk];exact List.getElem_mem hk)
  have ha:=jG (L.getD i 0) m ab ab hr.1 hr.2
  rw [show pO L i m=gT (L.getD i 0) m from if_pos hk]
  refine Spec.ofN Tryz.func58 rfl Tryz.ntmps58 rfl ?_
  refine am (aZ rfl (aj (aq (am (aS rfl (ai (bq (r:=false) _ _ rfl rfl (decide_eq_false ab)) ?_))))))
  refine cP rfl (aA rfl rfl (aE _ (rfl:_=AV.v (.int _ _))) (aA rfl rfl (aE _ (rfl:_=AV.sl _ _)) (aA rfl rfl (bH _ aa rfl) (aA rfl rfl (fc (r:=false) _ _ rfl rfl (decide_eq_false ab)) ?_))))
  refine ai (aH _ _ _ rfl (rfl:_=AV.v (.bool _))) (aj (aR rfl rfl (aJ (am (ez rfl (aS rfl (ai (bg _ _ aa rfl rfl _ rfl ab (by (simp only [ba,bo,bm,ba,gN,bQ];omega)) (by exact Nat.mul_one _)) ?_)))))))
  refine ai (bG _ aa rfl (by exact dY _ _ ab) rfl) ?_
  refine aS rfl (ai (aM aa al (ha) rfl rfl) ?_)
  exact aZ rfl (aj (aD (aY (.inr rfl) rfl (.tmp (rfl:_=AV.v _)) (Le.out [] [] .v rfl rfl rfl trivial trivial))))
 ·rw [show pO L i m=0 from if_neg hk]
  refine Spec.ofN Tryz.func58 rfl Tryz.ntmps58 rfl ?_
  refine am (aZ rfl (aj (aq (am (aS rfl (ai (bq (r:=false) _ _ rfl rfl (decide_eq_false ab)) ?_))))))
  refine cP rfl (aA rfl rfl (aE _ (rfl:_=AV.v (.int _ _))) (aA rfl rfl (aE _ (rfl:_=AV.sl _ _)) (aA rfl rfl (bH _ aa rfl) (aA rfl rfl (fc (r:=true) _ _ rfl rfl (decide_eq_true ab)) ?_))))
  exact ai (aH _ _ _ rfl (rfl:_=AV.v (.bool _))) (aj (bF rfl rfl (am (aZ rfl (aj (aD (aY (.inr rfl) rfl (.tmp (rfl:_=AV.v _)) (Le.out [] [] .v rfl rfl rfl trivial trivial))))))))
def DU (b:List Int) (k:Nat):Int:=if k=0 then pO b 0 9 % (1+pO b 1 3) else if k=1 then 1+pO b 1 3 else pO b k 9
def vu (b:List Int) (q k:Nat):Int:=if k < q then pO b k 9 else 0
abbrev L9 (e:Nat→Int):List AV:=[.v (.int .i64 (e 0)), .v (.int .i64 (e 1)), .v (.int .i64 (e 2)), .v (.int .i64 (e 3)), .v (.int .i64 (e 4)), .v (.int .i64 (e 5)), .v (.int .i64 (e 6)), .v (.int .i64 (e 7)), .v (.int .i64 (e 8))]
theorem Cz (e:Nat→Int) (h:Nat) (hh:h < 9) (x:Int):ft (L9 e) h [.v (.int .i64 x)]=L9 (oS e h x):=by
 rcases h with _ | _ | _ | _ | _ | _ | _ | _ | _ | h
 all_goals first | rfl | omega
theorem Ad (b:List Int) (q:Nat):oS (vu b q) q (pO b q 9)=vu b (q+1):=by
 funext k
 unfold oS vu
 by_cases h1:k=q
 ·rw [if_pos h1,if_pos ab,h1]
 ·rw [if_neg h1]
  by_cases h2:k < q
  ·rw [if_pos h2,if_pos ab]
  ·rw [if_neg h2,if_neg ab]
theorem sL (b:List Int) (G:GL b):
  Spec Tryz.prog 23 (bk [.sl b.length (cR b)] []) (aW (.agg (L9 (DU b))) []):=by
 have h1:=nA G 1 ab 3 ab
 have hlo:=qv b 1 (m:=3) ab
 have hhi:=qt b 1 (m:=3) ab
 have hlo0:=qv b 0 (m:=9) ab
 have hhi0:=qt b 0 (m:=9) ab
 refine Spec.ofN Tryz.func23 rfl Tryz.ntmps23 rfl ?_
 refine am (ai (ax (2,0) aa rfl rfl) (aj (am (ai (ax (3,0) aa rfl rfl) (aj (aG fun K3 hK3=> ?_))))))
 refine am (aZ rfl (aj (au ?_)))
 refine bB (α:=Nat) (fun q=> q≤9) 25 [(0,_),(2,_),(3,_)] [((2,0),_)] (fun q=> [(4, .v (.int .i64 (q:Int)))]) (fun q=> [((3,0), .box 30 [.v (.int .i64 (vu b q 0)), .v (.int .i64 (vu b q 1)), .v (.int .i64 (vu b q 2)), .v (.int .i64 (vu b q 3)), .v (.int .i64 (vu b q 4)), .v (.int .i64 (vu b q 5)), .v (.int .i64 (vu b q 6)), .v (.int .i64 (vu b q 7)), .v (.int .i64 (vu b q 8))])]) [] [] (fun q=> 9 - q) 0 ?_ (by
  refine Le.mkJ [] [] rfl ?_ ?_ trivial trivial ?_
  ·exact ⟨(iS rfl),(iP rfl),(iP rfl),(co ag),trivial⟩
  ·exact ⟨(cI rfl rfl rfl),(fg rfl rfl rfl rfl lz),trivial⟩
  ·kernel_rfl) ?_
 ·omega
 intro q hq
 refine aG fun K5 hK5=> ?_
 refine am (aS rfl (ai (bq _ _ rfl rfl rfl) (aj (aV rfl (fun hc6=> ?_) (fun hc6=> ?_)))))
 ·skip
  have hq9:=nA G q ab 9 ab
  refine bz (hK5 _ ?_)
  clear hK5;try clear K5
  refine aq (au (an (aS rfl (ez rfl (aS rfl (ai (aM aa al (hq9) rfl rfl) ?_))))))
  refine ai (eg _ _ aa rfl rfl rfl q rfl ab (by exact (Nat.zero_add _).trans (Nat.mul_one _))) ?_
  refine ai (ip _ _ aa rfl rfl rfl rfl (show q+1≤9 by omega) ((Cz (vu b q) q ab _).trans (by rw [Ad]))) ?_
  refine fP (an (aS rfl (ai (be _ _ rfl rfl (br ab)) ?_)))
  refine aZ rfl (az (⟨q+1,?_,?_,?_⟩))
  ·omega
  ·skip
   refine Le.mkJ [] [] rfl ?_ ?_ trivial trivial ?_
   ·exact ⟨(iS rfl),(iP rfl),(iP rfl),(co ag),trivial⟩
   ·exact ⟨(cI rfl rfl rfl),(fg rfl rfl rfl rfl lz),trivial⟩
   ·kernel_rfl
  ·omega
 ·skip
  obtain rfl:q=9:=by omega
  refine bK (id (hK3 _ ?_))
  clear hK3;try clear K3
  refine am (ez rfl (ai (aM aa al (h1) rfl rfl) ?_))
  refine ai (be (r:=1+pO b 1 3) _ _ rfl rfl (br ab)) ?_
  refine ai (eg _ _ aa rfl rfl rfl 1 rfl ab (by exact (Nat.zero_add _).trans (Nat.mul_one _))) ?_
  refine bL rfl rfl rfl rfl rfl rfl (aj (am (ai (eg _ _ aa rfl rfl rfl 0 rfl ab (by exact (Nat.zero_add _).trans (Nat.mul_one _))) ?_)))
  refine cG rfl rfl rfl (ai (eg _ _ aa rfl rfl rfl 1 rfl ab (by exact (Nat.zero_add _).trans (Nat.mul_one _))) ?_)
  refine cG rfl rfl rfl (ai (db (r:=pO b 0 9 % (1+pO b 1 3)) _ _ rfl rfl ab (Int.tmod_eq_emod_of_nonneg hlo0)) ?_)
  refine ai (eg _ _ aa rfl rfl rfl 0 rfl ab (by exact (Nat.zero_add _).trans (Nat.mul_one _))) ?_
  exact bL rfl rfl rfl rfl rfl rfl (aj (am (ai (aP _ aa rfl rfl rfl rfl) (bL rfl rfl rfl rfl rfl rfl (aj (aD (aY (.inr rfl) rfl (.cellA aa rfl rfl rfl) (Le.out [] [] (.agg rfl lz) rfl rfl rfl trivial trivial))))))))

def Co (p v b r:List Int):Mk:=⟨hZ p,gH v ((hZ p).d+(hZ p).v),(List.range 9).map (DU b),r.take 30⟩
theorem Dm (b:List Int) (k:Nat):Rg (DU b k):=by
 have h1:=qv b 1 (m:=3) ab
 have h2:=qt b 1 (m:=3) ab
 have h3:=qv b k (m:=9) ab
 have h4:=qt b k (m:=9) ab
 unfold DU Rg
 split
 ·have h5:=Int.emod_nonneg (pO b 0 9) (show 1+pO b 1 3≠0 by omega)
  have h6:=Int.emod_lt_of_pos (pO b 0 9) (show 0 < 1+pO b 1 3 by omega)
  omega
 ·split <;> omega
theorem Bv {n:Int} (h0:0≤n) (h1:n < 1000000):Rg (wP n):=by
 unfold wP
 refine nl (fun x hx=> ?_) _
 simp only [List.mem_cons,List.not_mem_nil,or_false] at hx
 unfold Rg
 rcases hx with rfl | rfl | rfl | rfl | rfl | rfl | rfl <;> omega
theorem re (a:List Int) (n:Nat): ∀ x∈gH a n,Rg x:=fun x hx=> by
 obtain ⟨i,_,rfl⟩:=List.mem_map.1 hx
 exact Bv (sM a i) (tj a i)
theorem rM (b:List Int): ∀ i,Rg (((List.range 9).map (DU b)).getD i 0):=fun i=> nl (fun x hx=> by
 obtain ⟨j,_,rfl⟩:=List.mem_map.1 hx
 exact Dm b j) i
structure vi (M:Mk) (D:Nat→Nat) (nv:Nat):Prop where
 pg:PG M.cx D nv
 iv:M.iv.length=nv
 ir: ∀ v∈M.iv,Rg v
 nv:0 < nv
 ent: ∀ h,h < 40→M.P.e h < 0∨ ∃ e0:Nat,M.P.e h=(e0:Int)∧e0 < M.P.c.length∧D e0=0
 c:M.P.c.length≤1000000
theorem xY (p v b r:List Int): ∃ D nv,vi (Co p v b r) D nv:=by
 by_cases hc:gU (pK p)=true
 ·have e:hZ p=⟨bU (pK p) 0,bZ (pK p),2,2⟩:=if_pos hc
  have U:=xj p
  refine ⟨qH (pK p),4,?_,?_,re _ _,by omega,fun h hh=> ?_,?_⟩
  ·show PG ⟨(hZ p).c,(hZ p).d,(List.range 9).map (DU b),r.take 30⟩ _ _
   rw [e]
   exact Cg ab U.ok (rM b)
  ·show (gH v ((hZ p).d+(hZ p).v)).length=4
   rw [kw,e];rfl
  ·show (hZ p).e h < 0∨ ∃ e0:Nat,(hZ p).e h=(e0:Int)∧e0 < (hZ p).c.length∧_
   rw [e]
   rcases sE (pK p) h with h1 | ⟨e0,_,h1,h2,h3⟩
   ·exact .inl (by show (lX (ix (pK p) 0)).getD h (-1) < 0;omega)
   ·exact .inr ⟨e0,h1,h2,h3⟩
  ·show (hZ p).c.length≤1000000
   rw [e];exact U.c
 ·have e:hZ p=tS 3 0:=if_neg hc
  refine ⟨qX,1,?_,?_,re _ _,by omega,fun h hh=> ?_,?_⟩
  ·show PG ⟨(hZ p).c,(hZ p).d,(List.range 9).map (DU b),r.take 30⟩ _ _
   rw [e]
   exact zq (by unfold Rg;omega) (by unfold Rg;omega) (rM b)
  ·show (gH v ((hZ p).d+(hZ p).v)).length=1
   rw [kw,e];rfl
  ·show (hZ p).e h < 0∨ ∃ e0:Nat,(hZ p).e h=(e0:Int)∧e0 < (hZ p).c.length∧_
   rw [e]
   by_cases h0:h=0
   ·subst h0
    exact .inr ⟨0,rfl,by show 0 < (rB 3 0).length;decide,rfl⟩
   ·exact .inl (by show eB 40 h < 0;unfold eB;rw [if_pos ab];omega)
  ·show (hZ p).c.length≤1000000
   rw [e];show (rB 3 0).length≤1000000;decide

set_option maxHeartbeats 1000000 in
theorem vd (M:Mk) (h:Nat) (hh:h < 40) (he:M.P.e h < 0) (h0:0 < M.iv.length) (h1:M.iv.length≤1000):
  Spec Tryz.prog 24 (bk [rz M.P, .v (.int .i64 (h:Int)), .sl M.iv.length (cR M.iv), .agg [.v (.int .i64 (M.nm 0)), .v (.int .i64 (M.nm 1)), .v (.int .i64 (M.nm 2)), .v (.int .i64 (M.nm 3)), .v (.int .i64 (M.nm 4)), .v (.int .i64 (M.nm 5)), .v (.int .i64 (M.nm 6)), .v (.int .i64 (M.nm 7)), .v (.int .i64 (M.nm 8))], .sl M.ans.length (cR M.ans)] []) (aW (.tup [.agg [.sl M.iv.length (cR M.iv), .sl 0 [], .v (.int .i64 0), .v (.bool false), .sl 0 []], .sl 0 [], .v (.bool true)]) []):=by
 have hv:=tz M h hh he h0 h1
 refine Spec.ofN Tryz.func24 rfl Tryz.ntmps24 rfl ?_
 refine am (ai (bf (5,0) _ rfl rfl) (ai (bf (8,0) _ rfl rfl) (ai (ax (10,0) aa rfl rfl) (ai (bA _ (rfl:_=AV.v (.slice _ _ _))) (cw rfl (aj (am (ez rfl (ai (ay _ aa rfl (by exact (rfl:_=some [_,_,_]))) ?_)))))))))
 refine ai (bf (17,0) _ rfl rfl) (zm rfl (aj (aq ?_)))
 refine aO (Le.nilB (17,0) 1 (62,0) 3 1 rfl rfl rfl) ?_
 refine an (ai (aP _ aa rfl rfl rfl rfl) (aS rfl (ez rfl (ai (aP _ aa rfl rfl rfl rfl) (ai (ay _ aa rfl (by exact (rfl:_=some [_,_,_,_,_,_,_,_,_,_]))) ?_)))))
 refine bh rfl (ai (mQ _ _ (rfl:_=[_]) (rfl:_=[])) ?_)
 refine ai (cQ aa [((4,9),(17,0)),((5,9),(62,0)),((5,8),(25,1))] ar (hv) ob tr tr rfl rfl ae ae) ?_
 refine ai (ax (14,0) aa rfl rfl) (bL rfl rfl rfl rfl rfl rfl (aj (aq ?_)))
 refine aO (σ':=aB 35 [(10,_),(13,_),(14,_)] [((10,0),_),((17,0),_),((25,1),_),((14,0),_)] [] []) kp ?_
 refine ll 12 [26,27,28,29,30,31,32,33,34,11,12] [(10,0)] ae ae rfl (rfl:_=[_,_,_,_,_,_,_,_,_,_,_,_]) (rfl:_=[]) ?_
 refine bN (_,[]) (fun τ=> aP _ aa rfl rfl rfl rfl) ?_
 refine bO (rfl:_=[_]) ?_
 refine bN (_,[]) (fun τ=> aE _ (rfl:_=AV.ptr _ _)) ?_
 refine bO (rfl:_=[_,_]) ?_
 refine bN (_,[]) (fun τ=> aN _ rfl rfl) ?_
 refine bO (rfl:_=[_,_,_]) ?_
 refine bN (_,[]) (fun τ=> aI _ aa rfl rfl rfl) ?_
 refine bO (rfl:_=[_,_,_,_]) ?_
 refine bN (_,[]) (fun τ=> aL _ aa rfl rfl (rfl:_=some (AV.ref _ _ _))) ?_
 refine bO (rfl:_=[_,_,_,_,_]) ?_
 refine bN (_,[]) (fun τ=> aE _ (rfl:_=AV.ptr _ _)) ?_
 refine bO (rfl:_=[_,_,_,_,_,_]) ?_
 refine bN (_,[]) (fun τ=> aN _ rfl rfl) ?_
 refine bO (rfl:_=[_,_,_,_,_,_,_]) ?_
 refine bN (_,[]) (fun τ=> aI _ aa rfl rfl rfl) ?_
 refine bO (rfl:_=[_,_,_,_,_,_,_,_]) ?_
 refine bN (_,[]) (fun τ=> aL _ aa rfl rfl (rfl:_=some (AV.v (.bool _)))) ?_
 refine bO (rfl:_=[_,_,_,_,_,_,_,_,_]) ?_
 refine bN (_,[((10,0),_)]) (fun τ=> ip _ _ aa rfl rfl rfl rfl (Nat.le_of_ble_eq_true rfl) rfl) ?_
 refine bO (rfl:_=[_,_,_,_,_,_,_,_,_,_]) ?_
 refine bN (_,[]) (fun τ=> bA _ (rfl:_=AV.ref _ _ _)) ?_
 refine bO (rfl:_=[_,_,_,_,_,_,_,_,_,_,_]) ?_
 refine bN (_,[]) (fun τ=> bA _ (rfl:_=AV.v (.bool _))) ?_
 refine bO (rfl:_=[_,_,_,_,_,_,_,_,_,_,_,_]) ?_
 refine jP ⟨⟨rfl,by kernel_rfl,by kernel_rfl⟩,?_⟩
 exact aj (aD (uJ (.inr rfl) rfl (.cellA aa rfl rfl rfl) (.tmp (rfl:_=AV.ref _ _ _)) (.tmp (rfl:_=AV.v _)) (Le.out [] [(25,1)] (.tup rfl (aC (.agg rfl lz) (aC (gQ rfl rfl rfl rfl) lz))) rfl rfl rfl tr trivial)))

def Ao (M:Mk) (h:Nat):Ms:=if M.P.e h < 0 then { vars:=M.iv,pc:=0,fin:=true } else jy M.cx 500 (eP M.iv (M.P.e h).toNat)
theorem AB {M:Mk} {h:Nat} (he:M.P.e h < 0):Ao M h={ vars:=M.iv,pc:=0,fin:=true }:=if_pos he
theorem xd {M:Mk} {h e0:Nat} (he:M.P.e h=(e0:Int)):Ao M h=jy M.cx 500 (eP M.iv e0):=by
  unfold Ao;rw [if_neg ab,he];rfl
abbrev Cf (M:Mk) (h:Nat):List AV:=[rz M.P, .v (.int .i64 (h:Int)), .sl M.iv.length (cR M.iv), .agg [.v (.int .i64 (M.nm 0)), .v (.int .i64 (M.nm 1)), .v (.int .i64 (M.nm 2)), .v (.int .i64 (M.nm 3)), .v (.int .i64 (M.nm 4)), .v (.int .i64 (M.nm 5)), .v (.int .i64 (M.nm 6)), .v (.int .i64 (M.nm 7)), .v (.int .i64 (M.nm 8))], .sl M.ans.length (cR M.ans)]
abbrev Fc (s:Ms):AV:= .tup [.agg [.sl s.vars.length (cR s.vars), .sl s.acts.length (qI s.acts), .v (.int .i64 (s.steps:Int)), .v (.bool (!s.fin)), .sl (sS s.cov).length (cR (sS s.cov))], .sl s.asked.length (cR s.asked), .v (.bool true)]
theorem El {M:Mk} {D:Nat→Nat} {nv:Nat} (K:vi M D nv) (hn:M.ans.length≤4611686018427387904) (h:Nat) (hh:h < 40):
    Spec Tryz.prog 24 (bk (Cf M h) []) (aW (Fc (Ao M h)) []):=by
  have hnv:=K.pg.nv
  have h0:0 < M.iv.length:=by rw [K.iv];exact K.nv
  have h1:M.iv.length≤1000:=by rw [K.iv];omega
  rcases K.ent h hh with he | ⟨e0,he,he2,hD⟩
  · rw [AB he];exact vd M h hh he h0 h1
  · rw [xd he]
    have hr:=rD M D nv K.pg h hh e0 he he2 hD K.iv K.ir K.nv K.c hn _ rfl
    rw [← Dj] at hr
    exact hr

abbrev FA (l:List Int):Prop:=l.length≤4611686018427387904∧ ∀ x∈l, -9223372036854775808≤x∧x≤9223372036854775807

def mL:Mk:=⟨⟨bU onsL 0,bZ onsL,0,1⟩,[0],[0,1,0,0,0,0,0,0,0],[]⟩
def rL:Ms:=jy mL.cx 500 (eP [0] 0)
theorem BQ:rL.vars=[3]:=by kernel_rfl
theorem zK:rL.acts=[{ k:=3,a:=0,b:=3,c:=3,d:=1 }]:=by kernel_rfl
theorem Dd:rL.fin=true:=by kernel_rfl
theorem yV:0 < rL.steps:=of_decide_eq_true ae
theorem FN:PG mL.cx (qH onsL) 1:=Cg ab usrcL.ok (fun i=> nl (fun x hx=> by
 have hx:x∈[(0:Int),1,0,0,0,0,0,0,0]:=hx
 simp only [List.mem_cons,List.not_mem_nil,or_false] at hx
 unfold Rg;omega) i)
theorem CP:mL.P.e 0=((0:Nat):Int):=by kernel_rfl
theorem Do:0 < mL.P.c.length:=of_decide_eq_true ae
theorem DX:qH onsL 0=0:=by kernel_rfl
set_option maxHeartbeats 1000000 in
theorem tc:Spec Tryz.prog 27 (bk [] []) (aW (.v (.bool true)) []):=by
 have hb:=sX usrcL
 rw [wy,if_pos (uK srcOkL)] at hb
 have hb:Spec Tryz.prog 64 (bk [.v (bt DH)] []) (aW (.tup [rz mL.P, .v (.int .i64 0)]) []):=hb
 have hrun:=rD mL (qH onsL) 1 FN 0 ab 0 CP Do DX rfl (fun x hx=> by rw [List.mem_singleton.1 hx];unfold Rg;omega) ab usrcL.c (by show 0≤_;omega) rL rfl
 rw [BQ,zK,Dd] at hrun
 have hn:=yV
 have hrun:Spec Tryz.prog 24 (bk [rz mL.P, .v (.int .i64 0), .sl 1 (cR [0]), .agg [.v (.int .i64 0), .v (.int .i64 1), .v (.int .i64 0), .v (.int .i64 0), .v (.int .i64 0), .v (.int .i64 0), .v (.int .i64 0), .v (.int .i64 0), .v (.int .i64 0)], .sl 0 []] []) (aW (.tup [.agg [.sl 1 (cR [3]), .sl 1 (qI [{ k:=3,a:=0,b:=3,c:=3,d:=1 }]), .v (.int .i64 (rL.steps:Int)), .v (.bool false), .sl (gK (kf rL.cov)).length (cR (gK (kf rL.cov)))], .sl rL.asked.length (cR rL.asked), .v (.bool true)]) []):=hrun
 generalize rL.steps=n at hn hrun
 generalize gK (kf rL.cov)=cv at hrun
 generalize rL.asked=ak at hrun
 generalize mL.P=P at hb hrun
 refine Spec.ofN Tryz.func27 rfl Tryz.ntmps27 rfl ?_
 refine am (cw rfl (aj (am (ai (aM aa al (hb) rfl rfl) ?_))))
 refine ai (aE _ (rfl:_=AV.tup _)) (ai (dh _ rfl (rfl:_=some (AV.agg _))) (ai (dh _ rfl (rfl:_=some (AV.v (.int _ _)))) (ai (ax (1,0) aa rfl rfl) (bL rfl rfl rfl rfl rfl rfl (aZ rfl (aj (am (ai (ax (3,0) aa rfl rfl) (aj (am ?_))))))))))
 refine ai (eg _ _ aa rfl rfl rfl 1 rfl ab (by exact (Nat.zero_add _).trans (Nat.mul_one _))) ?_
 refine bL rfl rfl rfl rfl rfl rfl (aj (am (ai (aP _ aa rfl rfl rfl rfl) (ai (aX _ _ aa rfl ag (by (simp <;> rfl)) ah rfl) ?_))))
 refine ai (aP _ aa rfl rfl rfl rfl) (ai (aM aa al (hrun) rfl rfl) ?_)
 refine ai (aE _ (rfl:_=AV.tup _)) (ai (dh _ rfl (rfl:_=some (AV.agg _))) (ai (dh _ rfl (rfl:_=some (AV.sl _ _))) (ai (dh _ rfl (rfl:_=some (AV.v (.bool _)))) (ai (ax (4,0) aa rfl rfl) (bL rfl rfl rfl rfl rfl rfl (kB rfl (cw rfl (aj (aq ?_)))))))))
 refine aO (σ':=aB 48 [(2,_),(4,_),(6,_)] [((4,0),_)] [] []) kp ?_
 refine an (aS rfl (iY rfl rfl rfl (cP rfl (aA rfl rfl (aE _ (rfl:_=AV.v (.bool _))) (ai (aH _ _ _ rfl (rfl:_=AV.v (.bool _))) (cP rfl (aA rfl rfl (aI _ aa rfl rfl rfl) (aA rfl rfl (aL _ aa rfl rfl (rfl:_=some (AV.sl _ _))) (aA rfl rfl (aX _ _ aa rfl ag (by (simp <;> rfl)) ah rfl) ?_)))))))))
 refine aA rfl rfl (aM aa al (oK [3] ah) rfl rfl) ?_
 refine ai (aH _ _ _ rfl (rfl:_=AV.v (.bool _))) (cP rfl (aA rfl rfl (aI _ aa rfl rfl rfl) (aA rfl rfl (aL _ aa rfl rfl (rfl:_=some (AV.sl _ _))) (aA rfl rfl (ay _ aa rfl (by exact (rfl:_=some [_,_,_,_,_]))) ?_))))
 refine aA rfl rfl (aX _ _ aa rfl ag (by (simp <;> rfl)) ah rfl) ?_
 refine aA rfl rfl (aM aa al (oP [{ k:=3,a:=0,b:=3,c:=3,d:=1 }] ah) rfl rfl) ?_
 refine ai (aH _ _ _ rfl (rfl:_=AV.v (.bool _))) (cP rfl (aA rfl rfl (aI _ aa rfl rfl rfl) (aA rfl rfl (aL _ aa rfl rfl (rfl:_=some (AV.v (.bool _)))) (aA rfl rfl (cT (r:=true) _ rfl rfl) (ai (aH _ _ _ rfl (rfl:_=AV.v (.bool _))) (cP rfl (aA rfl rfl (aI _ aa rfl rfl rfl) (aA rfl rfl (aL _ aa rfl rfl (rfl:_=some (AV.v (.int _ _)))) (aA rfl rfl (dB (r:=true) _ _ rfl rfl (decide_eq_true ab)) ?_)))))))))
 refine ai (aH _ _ _ rfl (rfl:_=AV.v (.bool _))) (cw rfl (aj (aD (aY (.inr rfl) rfl (.tmp (rfl:_=AV.v (.bool _))) (Le.out [] [] (gR ?_) rfl rfl rfl trivial trivial)))))
 rfl

abbrev Ns (M:Mk):AV:= .agg [.v (.int .i64 (M.nm 0)), .v (.int .i64 (M.nm 1)), .v (.int .i64 (M.nm 2)), .v (.int .i64 (M.nm 3)), .v (.int .i64 (M.nm 4)), .v (.int .i64 (M.nm 5)), .v (.int .i64 (M.nm 6)), .v (.int .i64 (M.nm 7)), .v (.int .i64 (M.nm 8))]
theorem BK (p v r:List Int) (hp:FA p) (hv:FA v) (hr:FA r): ∃ (M:Mk) (D:Nat→Nat) (nv:Nat),vi M D nv∧M.ans.length≤4611686018427387904∧
  Spec Tryz.prog 20 (bk [.sl p.length (cR p)] []) (aW (rz M.P) [])∧
  Spec Tryz.prog 21 (bk [.sl r.length (cR r), .v (.int .i64 20)] []) (aW (.sl M.ans.length (cR M.ans)) [])∧
  Spec Tryz.prog 22 (bk [rz M.P, .sl v.length (cR v)] []) (aW (.sl M.iv.length (cR M.iv)) [])∧
  Spec Tryz.prog 23 (bk [.sl v.length (cR v)] []) (aW (Ns M) [])∧M.P.d≤M.iv.length∧M.iv.length≤16:=by
 obtain ⟨D,nv,K⟩:=xY p v v (r.take 20)
 obtain ⟨M,hM⟩: ∃ M,M=Co p v v (r.take 20):=⟨_,rfl⟩
 rw [← hM] at K
 have hnv:=K.pg.nv
 have ha:M.ans=r.take 20:=by rw [hM];show (r.take 20).take 30=_;rw [List.take_take];rfl
 have hl:(r.take 20).length≤20:=by rw [List.length_take];omega
 have hiv:M.iv=gH v (M.P.d+M.P.v):=by rw [hM];rfl
 have hdv:M.P.d+M.P.v=nv:=by have:=K.iv;rw [hiv,kw] at this;exact this
 have hi2:=K.iv
 refine ⟨M,D,nv,K,by rw [ha];omega,by rw [hM];exact vR p hp.1 hp.2,by rw [ha];exact pN r hr.1 20 ab,?_,by rw [hM];exact sL v ⟨hv.1,hv.2⟩,by omega,by omega⟩
 rw [hiv];exact wm M.P v ⟨hv.1,hv.2⟩ ab

abbrev Nu (M:Mk) (l:List Int):Mk:=⟨M.P,M.iv,M.names,l⟩
theorem Dw {M:Mk} {D:Nat→Nat} {nv:Nat} (K:vi M D nv) (l:List Int):vi (Nu M l) D nv:=⟨⟨K.pg.good,K.pg.nv,K.pg.nm⟩,K.iv,K.ir,K.nv,K.ent,K.c⟩

set_option maxHeartbeats 1000000 in
theorem yj (M:Mk) (hS:uz) (D:Nat→Nat) (nv:Nat) (hK:PG M.cx D nv) (h:Nat) (hh:h < 40) (e0:Nat) (he:M.P.e h=(e0:Int)) (he2:e0 < M.P.c.length) (hD:D e0=0) (hiv:M.iv.length=nv) (hir: ∀ v∈M.iv,Rg v) (h0:0 < nv) (hc:M.P.c.length≤1000000) (hn:M.ans.length≤4611686018427387904) (R:Ms) (hR:R=jy M.cx 500 (eP M.iv e0)):
  Spec Tryz.prog 59 (bc [rz M.P, .v (.int .i64 (h:Int)), .agg [.sl M.iv.length (cR M.iv), .v (.int .i64 (M.nm 0)), .v (.int .i64 (M.nm 1)), .v (.int .i64 (M.nm 2)), .v (.int .i64 (M.nm 3)), .v (.int .i64 (M.nm 4)), .v (.int .i64 (M.nm 5)), .v (.int .i64 (M.nm 6)), .v (.int .i64 (M.nm 7)), .v (.int .i64 (M.nm 8))],xD (4,9)] (uB M.ans [] (5,9))) (bj (.agg [.ref (1,8) 0 R.vars.length, .ref (2,8) 0 R.acts.length, .v (.int .i64 (R.steps:Int)), .v (.bool (!R.fin)), .sl (gK (kf R.cov)).length (cR (gK (kf R.cov)))]) (((1,8), .row 3 1 (cR R.vars))::((2,8), .row 57 5 (qI R.acts))::uB M.ans R.asked (5,8)) [(2,8),(4,9),(5,8)] [(4,9)]):=by
 have hnv:=hK.nv
 have hcl:=jq M.iv ab ab
 have hg:=mf M.P.c.length (inl M.P.c) M.P.e (M.P.d:Int) (M.P.v:Int) h hh
 rw [he] at hg
 refine Spec.ofNI Tryz.func59 rfl Tryz.ntmps59 rfl ?_
 refine am (ai (bf (4,0) _ rfl rfl) (ai (bf (6,0) _ rfl rfl) (ai (ax (8,0) aa rfl rfl) (aj (aq (bE 11 [13,14,15,16,17,18,19,20,21,22,23] [(22,0)] ae ae rfl (aK rfl) (rfl:_=[_,_,_,_,_,_,_,_,_,_,_]) (rfl:_=[_,_,_]) ?_))))))
 refine ap (_,[]) (fun τ=> aP _ aa rfl rfl rfl rfl) ?_
 refine eE rfl ?_
 refine ap (_,[]) (fun τ=> aP _ aa rfl rfl rfl rfl) ?_
 refine eF rfl ?_
 refine ap (_,[]) (fun τ=> aE _ (rfl:_=AV.fn _ _ _)) ?_
 refine eD rfl ?_
 refine ap (_,[]) (fun τ=> aE _ (rfl:_=AV.v (.int _ _))) ?_
 refine eI rfl ?_
 refine ap (_,[]) (fun τ=> aI _ aa rfl rfl rfl) ?_
 refine eU rfl ?_
 refine ap (_,[]) (fun τ=> eg _ _ aa rfl rfl rfl h rfl ab (by exact congrArg (fun z=> 0+1+z) (Nat.mul_one h))) ?_
 refine fh rfl ?_
 refine ap (_,[]) (fun τ=> aL _ aa rfl rfl (by exact (congrArg (fun z=> (yf M.P.c.length (inl M.P.c) M.P.e (M.P.d:Int) (M.P.v:Int))[z]?) ab).trans hg)) ?_
 refine fZ rfl ?_
 refine ap (_,[]) (fun τ=> aI _ aa rfl rfl rfl) ?_
 refine jz rfl ?_
 refine ap (_,[]) (fun τ=> aL _ aa rfl rfl (rfl:_=some (AV.sl _ _))) ?_
 refine jC rfl ?_
 refine ap (_,[((22,0),_)]) (fun τ=> (cQ aa [((0,8),(22,0))] ar (hcl.toI) trivial tr tr rfl rfl ae ae)) ?_
 refine fK rfl ?_
 refine ap (_,[]) (fun τ=> ay _ aa rfl (by exact (rfl:_=some [AV.ref (22,0) 0 M.iv.length,AV.v (.slice none 0 0),AV.v (.int .i64 0),AV.v (.bool false),AV.v (.slice none 0 0)]))) ?_
 refine gl rfl (bi ⟨rfl,?_⟩)
 refine ai (ay _ aa rfl (by exact (rfl:_=some [_,_,_,_,_,_,_,_,_,_,_,_,_,_,_,_,_,_,_,_,_,_,_,_,_,_,_,_,_,_,_,_,_,_,_,_,_,_,_,_,_,_,_,_,_,_,_,_,_,_,_,_,_,_,_,_,_,_,_,_,_,_,_,_]))) ?_
 refine ai (bf (25,0) _ rfl rfl) (zm rfl (aj (aq (aq ?_))))
 refine aO (σ':=aB 108 [(4,_),(8,_),(9,_)] [((4,9),_),((5,9),_),((4,0),_),((8,0),_),((22,0),_),((25,0),_)] [(4,9),(5,9)] [(4,9)]) kp ?_
 refine an (bh rfl (ai (aN _ rfl rfl) (bv rfl rfl rfl (cG rfl rfl rfl (ai (bq _ _ rfl rfl rfl) (aj (aR rfl (decide_eq_false ab) ?_)))))))
 refine aJ (am (ai (aM aa (by repeat' (exact dE)) (rZ) rfl rfl) ?_))
 refine ai (ax (10,0) aa rfl rfl) (bL rfl rfl rfl rfl rfl rfl (aj (am (ai (zc (36,0) rfl) (ai (bA _ (rfl:_=AV.mp _)) (aj (aG fun K7 hK7=> ?_)))))))
 refine au ?_
 refine aO (Le.incT (60,0) rfl) ?_
 refine aO (Le.incT (61,0) rfl) ?_
 refine aO (Le.nilB (25,0) 55 (60,0) 57 5 rfl rfl rfl) ?_
 refine aO (Le.nilB (25,0) 59 (61,0) 3 1 rfl rfl rfl) ?_
 refine bB (α:=Nat×Ms) (fun z=> R=jy M.cx z.1 z.2∧z.1+z.2.steps=500∧At M.cx D nv z.2∧Sz z.2) 108 [(4,_),(8,_),(9,_),(10,_),(11,_)] [((4,0),_),((8,0),_),((10,0),_)] (fun z=> []) (fun z=> [((25,0), .box 171 [.sl M.P.c.length (inl M.P.c), .v (.int .i64 (M.P.e 0)), .v (.int .i64 (M.P.e 1)), .v (.int .i64 (M.P.e 2)), .v (.int .i64 (M.P.e 3)), .v (.int .i64 (M.P.e 4)), .v (.int .i64 (M.P.e 5)), .v (.int .i64 (M.P.e 6)), .v (.int .i64 (M.P.e 7)), .v (.int .i64 (M.P.e 8)), .v (.int .i64 (M.P.e 9)), .v (.int .i64 (M.P.e 10)), .v (.int .i64 (M.P.e 11)), .v (.int .i64 (M.P.e 12)), .v (.int .i64 (M.P.e 13)), .v (.int .i64 (M.P.e 14)), .v (.int .i64 (M.P.e 15)), .v (.int .i64 (M.P.e 16)), .v (.int .i64 (M.P.e 17)), .v (.int .i64 (M.P.e 18)), .v (.int .i64 (M.P.e 19)), .v (.int .i64 (M.P.e 20)), .v (.int .i64 (M.P.e 21)), .v (.int .i64 (M.P.e 22)), .v (.int .i64 (M.P.e 23)), .v (.int .i64 (M.P.e 24)), .v (.int .i64 (M.P.e 25)), .v (.int .i64 (M.P.e 26)), .v (.int .i64 (M.P.e 27)), .v (.int .i64 (M.P.e 28)), .v (.int .i64 (M.P.e 29)), .v (.int .i64 (M.P.e 30)), .v (.int .i64 (M.P.e 31)), .v (.int .i64 (M.P.e 32)), .v (.int .i64 (M.P.e 33)), .v (.int .i64 (M.P.e 34)), .v (.int .i64 (M.P.e 35)), .v (.int .i64 (M.P.e 36)), .v (.int .i64 (M.P.e 37)), .v (.int .i64 (M.P.e 38)), .v (.int .i64 (M.P.e 39)), .v (.int .i64 (M.P.d:Int)), .v (.int .i64 (M.P.v:Int)), .sl M.iv.length (cR M.iv), .v (.int .i64 (M.nm 0)), .v (.int .i64 (M.nm 1)), .v (.int .i64 (M.nm 2)), .v (.int .i64 (M.nm 3)), .v (.int .i64 (M.nm 4)), .v (.int .i64 (M.nm 5)), .v (.int .i64 (M.nm 6)), .v (.int .i64 (M.nm 7)), .v (.int .i64 (M.nm 8)), .fn (.func 60) [.ptr (4,9) 0] [], .ref (22,0) 0 z.2.vars.length, .ref (60,0) 0 z.2.acts.length, .v (.int .i64 (z.2.steps:Int)), .v (.bool false), .v (.slice none 0 0), .ref (61,0) 0 z.2.stack.length, .v (.int .i64 (z.2.pc:Int)), .v (.int .i64 (z.2.asked.length:Int)), .v (.int .i64 (cu z.2.acts:Int)), .v (.bool z.2.fin)]),((22,0), .row 3 1 (cR z.2.vars)),((60,0), .row 57 5 (qI z.2.acts)),((61,0), .row 3 1 (cR z.2.stack)),((36,0), .mp (eb (kf z.2.cov)) (kf z.2.cov).length),((4,9), .box 129 [.sl M.ans.length (cR M.ans), .ref (5,9) 0 z.2.asked.length, .v (.bool true)]),((5,9), .row 3 1 (cR z.2.asked))]) [(4,9),(5,9),(60,0),(61,0)] [(4,9)] (fun z=> z.1) (500,eP M.iv e0) ?_ (by
  refine Le.mkJ [] [] rfl ?_ ?_ trivial tr ?_
  ·exact ⟨(iP rfl),(iP rfl),(iP rfl),(iP rfl),(iM rfl),trivial⟩
  ·exact ⟨(cI rfl rfl rfl),(cI rfl rfl rfl),(cI rfl rfl rfl),(fg rfl rfl rfl rfl (aC (gP ag ag) (kC (kC (kC (kC (kX (kX (aC (gP ag ag) (rh (rh (kX (aC (by repeat' (first | exact dD rfl | refine Lv.fn rfl ?_ rfl ?_ | exact bn | refine aC ?_ ?_)) (aC (cX rfl ag) (aC (cX rfl ag) (kX (aC (gR ag) (aC (by repeat' (exact Lv.v)) lz)))))))))))))))))),(fJ rfl rfl rfl ag),(fJ rfl rfl rfl ag),(fJ rfl rfl rfl ag),(IQ rfl rfl rfl ag ag),(fg rfl rfl rfl rfl lz),(fJ rfl rfl rfl ag),trivial⟩
  ·kernel_rfl) ?_
 ·exact ⟨hR,rfl,oC hiv hir he2 hD,⟨Nat.le_refl _,Nat.le_refl _,Nat.le_refl _⟩⟩
 intro z hz
 obtain ⟨k,s⟩:=z
 obtain ⟨hz1,hz2,hz3,hz4⟩:=hz
 simp only at hz1 hz2 hz3 hz4 ⊢
 have hl1:=hz4.st
 have hl2:=hz4.ac
 have hl3:=hz4.ak
 have hcn:=hz3.cn
 refine aG fun K8 hK8=> ?_
 refine aG fun K9 hK9=> ?_
 refine an (bh rfl (ai (aN _ rfl rfl) (bv rfl rfl rfl (Ek rfl rfl rfl (ai (cT (r:= !s.fin) _ rfl rfl) ?_)))))
 refine cP rfl (dH (fun hg42=> ?_) (fun hg42=> ?_))
 ·skip
  have hf:s.fin=false:=by simpa using hg42
  refine aA rfl rfl (aE _ (rfl:_=AV.ptr _ _)) (aA rfl rfl (aN _ rfl rfl) (aA rfl rfl (aI _ aa rfl rfl rfl) (aA rfl rfl (aI _ aa rfl rfl rfl) (aA rfl rfl (aL _ aa rfl rfl (rfl:_=some (AV.v (.int _ _)))) (aA rfl rfl (bq (r:=decide ((s.steps:Int) < 500)) _ _ rfl rfl rfl) ?_)))))
  refine ai (aH _ _ _ rfl (rfl:_=AV.v (.bool _))) (az (hK9 _ ?_))
  clear hK9;try clear K9
  refine aV rfl (fun hc49=> ?_) (fun hc49=> ?_)
  ·skip
   obtain ⟨k,rfl⟩: ∃ q,k=q+1:=⟨k - 1,by omega⟩
   obtain ⟨hp,hd⟩:=hz3.go hf
   obtain ⟨⟨o,n⟩,hx⟩: ∃ x,M.cx.code[s.pc]? =some x:=⟨_,List.getElem?_eq_getElem hp⟩
   obtain ⟨g1,g2,_⟩:=hK.good s.pc ⟨o,n⟩ hx
   rw [Nat.zero_add] at g2
   have g2:o.pops≤D s.pc:=g2
   have hgx:M.cx.code.getD s.pc { op:= .stop }=⟨o,n⟩:=by rw [List.getD_eq_getElem?_getD,hx];rfl
   have hst:gI M.cx s=dy M.cx ⟨o,n⟩ { s with pc:=s.pc+1,steps:=s.steps+1,cov:=s.cov++[s.pc] }:=by unfold gI;rw [hgx]
   have hat:=pS hK hz3 hf
   have hsz:=tV (K:=M.cx) hz4
   have hss:=(jR (K:=M.cx) (s:=s)).1
   rw [jy,if_neg (by rw [hf];decide)] at hz1
   have hop:=xR M { s with pc:=s.pc+1,steps:=s.steps+1,cov:=s.cov++[s.pc] } ⟨o,n⟩ nv g1 ⟨hz3.iv.vl,hz3.iv.rv,hz3.iv.rs,hz3.iv.ac,hz3.iv.sn,hz3.iv.ar⟩ (show o.pops≤s.stack.length by omega) (by simp only;omega) (by simp only;omega) (by simp only;omega) hn
   have hcov:=rf M.cx ⟨o,n⟩ { s with pc:=s.pc+1,steps:=s.steps+1,cov:=s.cov++[s.pc] }
   rw [hst] at hz1 hat hsz hss
   have hmp:fU (kf s.cov) (s.pc:Int) (.agg #[])=kf (dy M.cx ⟨o,n⟩ { s with pc:=s.pc+1,steps:=s.steps+1,cov:=s.cov++[s.pc] }).cov:=by rw [hcov,rN]
   have hia:=sA M.P.c s.pc hp
   rw [show cL M.P.c s.pc=⟨o,n⟩ from hgx] at hia
   have hn24:=yw o
   have hpcl:s.pc < M.P.c.length:=hp
   generalize dy M.cx ⟨o,n⟩ { s with pc:=s.pc+1,steps:=s.steps+1,cov:=s.cov++[s.pc] }=E at hz1 hat hsz hss hop hcov hmp
   refine bz (hK8 _ ?_)
   clear hK8;try clear K8
   refine au (am (ai (aE _ (rfl:_=AV.mp _)) (bh rfl (ai (aN _ rfl rfl) (bv rfl rfl rfl (cG rfl rfl rfl (ai (ay _ aa rfl (by exact (rfl:_=some []))) ?_)))))))
   refine ai (tL _ _ _ Tryz.underlying175 Tryz.underlying3 rfl rfl rfl rfl rfl (uo _ _) hmp rfl) ?_
   refine aj (aq ?_)
   refine aO (σ':=aB 108 [(4,_),(8,_),(9,_),(10,_),(11,_)] [((4,0),_),((8,0),_),((10,0),_),((25,0),_),((22,0),_),((60,0),_),((61,0),_),((36,0),_),((4,9),_),((5,9),_)] [(4,9),(5,9),(60,0),(61,0)] [(4,9)]) kp ?_
   refine bE 9 [56,57,58,59,60,61,62,63,12] [(12,0)] ae ae rfl (aK rfl) (rfl:_=[_,_,_,_,_,_,_,_,_]) (rfl:_=[_]) ?_
   refine ap (_,[]) (fun τ=> aI _ aa rfl rfl rfl) ?_
   refine eE rfl ?_
   refine ap (_,[]) (fun τ=> aL _ aa rfl rfl (rfl:_=some (AV.sl _ _))) ?_
   refine eF rfl ?_
   refine ap (_,[]) (fun τ=> aE _ (rfl:_=AV.ptr _ _)) ?_
   refine eD rfl ?_
   refine ap (_,[]) (fun τ=> aN _ rfl rfl) ?_
   refine eI rfl ?_
   refine ap (_,[]) (fun τ=> aI _ aa rfl rfl rfl) ?_
   refine eU rfl ?_
   refine ap (_,[]) (fun τ=> aL _ aa rfl rfl (rfl:_=some (AV.v (.int _ _)))) ?_
   refine fh rfl ?_
   refine ap (_,[]) (fun τ=> bg _ _ aa rfl rfl _ rfl ab (by (simp only [ba,bo,bm,ba,gN,bQ];omega)) ag) ?_
   refine fZ rfl ?_
   refine ap (_,[]) (fun τ=> cj _ aa rfl (by exact hia) rfl) ?_
   refine jz rfl ?_
   refine ap (_,[((12,0),_)]) (fun τ=> ax (12,0) aa rfl rfl) ?_
   refine jC rfl (bi ⟨rfl,?_⟩)
   refine bL rfl rfl rfl rfl rfl rfl (aj (am (bh rfl (ai (aN _ rfl rfl) (bv rfl rfl rfl (cG rfl rfl rfl (ai (be (r:=((s.pc+1:Nat):Int)) _ _ rfl rfl ((br ab).trans ab)) ?_)))))))
   refine ai (aN _ rfl rfl) (bv rfl rfl rfl (bL rfl rfl rfl rfl rfl rfl (aj (aq ?_))))
   refine aO (σ':=aB 108 [(4,_),(8,_),(9,_),(10,_),(11,_),(12,_)] [((4,0),_),((8,0),_),((10,0),_),((25,0),_),((22,0),_),((60,0),_),((61,0),_),((36,0),_),((4,9),_),((5,9),_),((12,0),_)] [(4,9),(5,9),(60,0),(61,0)] [(4,9)]) kp ?_
   refine an (bh rfl (ai (aN _ rfl rfl) (bv rfl rfl rfl (bv rfl rfl rfl (cG rfl rfl rfl (ai (be (r:=((s.steps+1:Nat):Int)) _ _ rfl rfl ((br ab).trans ab)) ?_))))))
   refine ai (aN _ rfl rfl) (bv rfl rfl rfl (bv rfl rfl rfl (bL rfl rfl rfl rfl rfl rfl (aj ?_))))
   refine aO (σ':=aB 108 [(4,_),(8,_),(9,_),(10,_),(11,_),(12,_)] [((4,0),_),((8,0),_),((10,0),_),((25,0),_),((22,0),_),((60,0),_),((61,0),_),((36,0),_),((4,9),_),((5,9),_),((12,0),_)] [(4,9),(5,9),(60,0),(61,0)] [(4,9)]) kp ?_
   refine bE 7 [80,81,82,83,84,85,86] [] ae ae rfl (aK rfl) (rfl:_=[_,_,_,_,_,_,_]) (rfl:_=[_]) ?_
   refine ap (_,[]) (fun τ=> aI _ aa rfl rfl rfl) ?_
   refine eE rfl ?_
   refine ap (_,[]) (fun τ=> aL _ aa rfl rfl (rfl:_=some (AV.v (.int _ _)))) ?_
   refine eF rfl ?_
   refine ap (_,[]) (fun τ=> eg _ _ aa rfl rfl rfl o.num rfl ab (by exact (Nat.zero_add _).trans (Nat.mul_one _))) ?_
   refine eD rfl ?_
   refine ap (_,[]) (fun τ=> aL _ aa rfl rfl (by exact tX o)) ?_
   refine eI rfl ?_
   refine ap (_,[]) (fun τ=> aE _ (rfl:_=AV.ptr _ _)) ?_
   refine eU rfl ?_
   refine ap (_,[]) (fun τ=> aI _ aa rfl rfl rfl) ?_
   refine fh rfl ?_
   refine ap (_,[]) (fun τ=> aL _ aa rfl rfl (rfl:_=some (AV.v (.int _ _)))) ?_
   refine fZ rfl (bi ⟨rfl,?_⟩)
   refine cD ((Le.incT (87,0) rfl).trans ((Le.incT (87,1) rfl).trans (Le.incT (87,2) rfl))) ?_
   refine ai (kR rfl aa [((0,9),(25,0)),((1,9),(22,0)),((2,9),(60,0)),((3,9),(61,0)),((2,8),(87,0)),((3,8),(87,1)),((5,8),(87,2))] ?_ (hop) ob tr tr rfl (by clear hS hg hia hop;cases o <;> kernel_rfl) ae) ?_
   ·exact cq (dD rfl) (cq .v (si o))
   refine az (⟨(k,E),?_,?_,?_⟩)
   ·exact ⟨hz1,by simp only;omega,hat,hsz⟩
   ·skip
    refine Le.mkJ [((60,0),(87,0)),((61,0),(87,1)),((5,9),(87,2))] [] rfl ?_ ?_ trivial tr ?_
    ·exact ⟨(dD (id:=(4,0)) rfl),(dD (id:=(8,0)) rfl),(dD (id:=(25,0)) rfl),(dD (id:=(10,0)) rfl),(by repeat' (exact Lv.mp)),trivial⟩
    ·exact ⟨(fg rfl rfl rfl rfl (by repeat' (first | exact Lv.v | exact Lv.sl | exact bn | refine aC ?_ ?_))),(fg rfl rfl rfl rfl (by repeat' (first | exact Lv.v | exact bn | refine aC ?_ ?_))),(fg rfl rfl rfl rfl (by repeat' (first | exact Lv.v | exact Lv.fp | refine Lv.fn rfl ?_ rfl ?_ | exact bn | refine aC ?_ ?_))),(fg rfl rfl rfl rfl (aC (gP ag ag) (kC (kC (kC (kC (kX (kX (aC (gP ag ag) (rh (rh (kX (aC (by repeat' (first | exact dD (id:=(4,9)) rfl | refine Lv.fn rfl ?_ rfl ?_ | exact bn | refine aC ?_ ?_)) (aC (cX rfl ag) (aC (cX rfl ag) (kX (aC (gR ag) (aC (by repeat' (exact Lv.v)) lz)))))))))))))))))),(fJ rfl rfl rfl ag),(fJ rfl rfl rfl ag),(fJ rfl rfl rfl ag),(IQ rfl rfl rfl ag ag),(fg rfl rfl rfl rfl lz),(fJ rfl rfl rfl ag),trivial⟩
    ·kernel_rfl
   ·simp only;omega
  ·skip
   obtain rfl:k=0:=by omega
   obtain rfl:R=s:=hz1
   refine bK (id (hK7 _ ?_))
   clear hK7;try clear K7
   refine am (bh rfl (bh rfl (ai (aN _ rfl rfl) (bv rfl rfl rfl (Ek rfl rfl rfl (ai (cT (r:= !R.fin) _ rfl rfl) ?_))))))
   refine ai (aN _ rfl rfl) (bv rfl rfl rfl (bv rfl rfl rfl (bL rfl rfl rfl rfl rfl rfl (aj (aq ?_)))))
   refine aO (σ':=aB 108 [(8,_),(9,_),(11,_)] [((8,0),_),((25,0),_),((22,0),_),((60,0),_),((61,0),_),((36,0),_),((4,9),_),((5,9),_)] [(4,9),(5,9),(60,0),(61,0)] [(4,9)]) kp ?_
   refine an (bh rfl (ai (aE _ (rfl:_=AV.mp _)) (ai (cQ aa [((0,9),(36,0)),((1,8),(99,0))] ?_ (kj _ _) ⟨⟨rfl,⟨_,rfl, .mp⟩,rfl⟩,trivial⟩ tr tr rfl rfl ae ae) ?_)))
   ·exact cq (qx rfl) cW
   refine ai (cQ aa [((0,9),(36,0)),((1,9),(99,0))] ar (hS (kf R.cov) (by have:=ng R.cov;omega) (lI _) (qw _) (qr _ fun i hi=> Nat.le_trans (Nat.le_of_lt (hz3.cl i hi)) hc)) ⟨⟨rfl,⟨_,rfl, .mp⟩,rfl⟩,⟨rfl,⟨_,rfl, .box ag (aC (qx (id:=(0,9)) (id':=(36,0)) rfl) bn)⟩,rfl⟩,trivial⟩ tr tr rfl rfl ae ae) ?_
   refine ai (aN _ rfl rfl) (bv rfl rfl rfl (bv rfl rfl rfl (bL rfl rfl rfl rfl rfl rfl (aj (am (bh rfl (ai (aN _ rfl rfl) (bv rfl rfl rfl (ai (aP _ aa rfl rfl rfl rfl) (bL rfl rfl rfl rfl rfl rfl ?_))))))))))
   exact aj (aD (aY (.inr rfl) rfl (.cellA aa rfl rfl rfl) (Le.outI [((1,8),(22,0)),((2,8),(60,0)),((5,8),(5,9))] [] (.agg rfl lz) rfl rfl rfl trivial ob tr rfl)))
 ·skip
  have hf:s.fin=true:=by simpa using hg42
  obtain rfl:R=s:=hz1.trans (tP hf k)
  refine aU rfl rfl ah ?_
  refine aU rfl rfl ah ?_
  refine aU rfl rfl ah ?_
  refine aU rfl rfl ah ?_
  refine aU rfl rfl ah ?_
  refine aU rfl rfl ah ?_
  refine ai (aH _ _ _ rfl (rfl:_=AV.v (.bool _))) (az (hK9 _ ?_))
  clear hK9;try clear K9
  refine aR rfl rfl (bK (id (hK7 _ ?_)))
  clear hK7;try clear K7
  refine am (bh rfl (bh rfl (ai (aN _ rfl rfl) (bv rfl rfl rfl (Ek rfl rfl rfl (ai (cT (r:= !R.fin) _ rfl rfl) ?_))))))
  refine ai (aN _ rfl rfl) (bv rfl rfl rfl (bv rfl rfl rfl (bL rfl rfl rfl rfl rfl rfl (aj (aq ?_)))))
  refine aO (σ':=aB 108 [(8,_),(9,_),(11,_)] [((8,0),_),((25,0),_),((22,0),_),((60,0),_),((61,0),_),((36,0),_),((4,9),_),((5,9),_)] [(4,9),(5,9),(60,0),(61,0)] [(4,9)]) kp ?_
  refine an (bh rfl (ai (aE _ (rfl:_=AV.mp _)) (ai (cQ aa [((0,9),(36,0)),((1,8),(99,0))] ?_ (kj _ _) ⟨⟨rfl,⟨_,rfl, .mp⟩,rfl⟩,trivial⟩ tr tr rfl rfl ae ae) ?_)))
  ·exact cq (qx rfl) cW
  refine ai (cQ aa [((0,9),(36,0)),((1,9),(99,0))] ar (hS (kf R.cov) (by have:=ng R.cov;omega) (lI _) (qw _) (qr _ fun i hi=> Nat.le_trans (Nat.le_of_lt (hz3.cl i hi)) hc)) ⟨⟨rfl,⟨_,rfl, .mp⟩,rfl⟩,⟨rfl,⟨_,rfl, .box ag (aC (qx (id:=(0,9)) (id':=(36,0)) rfl) bn)⟩,rfl⟩,trivial⟩ tr tr rfl rfl ae ae) ?_
  refine ai (aN _ rfl rfl) (bv rfl rfl rfl (bv rfl rfl rfl (bL rfl rfl rfl rfl rfl rfl (aj (am (bh rfl (ai (aN _ rfl rfl) (bv rfl rfl rfl (ai (aP _ aa rfl rfl rfl rfl) (bL rfl rfl rfl rfl rfl rfl ?_))))))))))
  exact aj (aD (aY (.inr rfl) rfl (.cellA aa rfl rfl rfl) (Le.outI [((1,8),(22,0)),((2,8),(60,0)),((5,8),(5,9))] [] (.agg rfl lz) rfl rfl rfl trivial ob tr rfl)))
set_option maxHeartbeats 1000000 in
theorem vX (M:Mk) (h:Nat) (hh:h < 40) (he:M.P.e h < 0) (h0:0 < M.iv.length) (h1:M.iv.length≤1000):
  Spec Tryz.prog 59 (bc [rz M.P, .v (.int .i64 (h:Int)), .agg [.sl M.iv.length (cR M.iv), .v (.int .i64 (M.nm 0)), .v (.int .i64 (M.nm 1)), .v (.int .i64 (M.nm 2)), .v (.int .i64 (M.nm 3)), .v (.int .i64 (M.nm 4)), .v (.int .i64 (M.nm 5)), .v (.int .i64 (M.nm 6)), .v (.int .i64 (M.nm 7)), .v (.int .i64 (M.nm 8))],xD (4,9)] (uB M.ans [] (5,9))) (bj (.agg [.ref (1,8) 0 M.iv.length, .sl 0 [], .v (.int .i64 0), .v (.bool false), .sl 0 []]) (((1,8), .row 3 1 (cR M.iv))::uB M.ans [] (5,8)) [(4,9),(5,8)] [(4,9)]):=by
 have hcl:=jq M.iv ab ab
 have hg:=mf M.P.c.length (inl M.P.c) M.P.e (M.P.d:Int) (M.P.v:Int) h hh
 refine Spec.ofNI Tryz.func59 rfl Tryz.ntmps59 rfl ?_
 refine am (ai (bf (4,0) _ rfl rfl) (ai (bf (6,0) _ rfl rfl) (ai (ax (8,0) aa rfl rfl) (aj (aq (bE 11 [13,14,15,16,17,18,19,20,21,22,23] [(22,0)] ae ae rfl (aK rfl) (rfl:_=[_,_,_,_,_,_,_,_,_,_,_]) (rfl:_=[_,_,_]) ?_))))))
 refine ap (_,[]) (fun τ=> aP _ aa rfl rfl rfl rfl) ?_
 refine eE rfl ?_
 refine ap (_,[]) (fun τ=> aP _ aa rfl rfl rfl rfl) ?_
 refine eF rfl ?_
 refine ap (_,[]) (fun τ=> aE _ (rfl:_=AV.fn _ _ _)) ?_
 refine eD rfl ?_
 refine ap (_,[]) (fun τ=> aE _ (rfl:_=AV.v (.int _ _))) ?_
 refine eI rfl ?_
 refine ap (_,[]) (fun τ=> aI _ aa rfl rfl rfl) ?_
 refine eU rfl ?_
 refine ap (_,[]) (fun τ=> eg _ _ aa rfl rfl rfl h rfl ab (by exact congrArg (fun z=> 0+1+z) (Nat.mul_one h))) ?_
 refine fh rfl ?_
 refine ap (_,[]) (fun τ=> aL _ aa rfl rfl (by exact (congrArg (fun z=> (yf M.P.c.length (inl M.P.c) M.P.e (M.P.d:Int) (M.P.v:Int))[z]?) ab).trans hg)) ?_
 refine fZ rfl ?_
 refine ap (_,[]) (fun τ=> aI _ aa rfl rfl rfl) ?_
 refine jz rfl ?_
 refine ap (_,[]) (fun τ=> aL _ aa rfl rfl (rfl:_=some (AV.sl _ _))) ?_
 refine jC rfl ?_
 refine ap (_,[((22,0),_)]) (fun τ=> (cQ aa [((0,8),(22,0))] ar (hcl.toI) trivial tr tr rfl rfl ae ae)) ?_
 refine fK rfl ?_
 refine ap (_,[]) (fun τ=> ay _ aa rfl (by exact (rfl:_=some [AV.ref (22,0) 0 M.iv.length,AV.v (.slice none 0 0),AV.v (.int .i64 0),AV.v (.bool false),AV.v (.slice none 0 0)]))) ?_
 refine gl rfl (bi ⟨rfl,?_⟩)
 refine ai (ay _ aa rfl (by exact (rfl:_=some [_,_,_,_,_,_,_,_,_,_,_,_,_,_,_,_,_,_,_,_,_,_,_,_,_,_,_,_,_,_,_,_,_,_,_,_,_,_,_,_,_,_,_,_,_,_,_,_,_,_,_,_,_,_,_,_,_,_,_,_,_,_,_,_]))) ?_
 refine ai (bf (25,0) _ rfl rfl) (zm rfl (aj (aq (aq ?_))))
 refine aO (σ':=aB 108 [(4,_),(8,_),(9,_)] [((4,9),_),((5,9),_),((4,0),_),((8,0),_),((22,0),_),((25,0),_)] [(4,9),(5,9)] [(4,9)]) kp ?_
 refine an (bh rfl (ai (aN _ rfl rfl) (bv rfl rfl rfl (cG rfl rfl rfl (ai (bq (r:=true) _ _ rfl rfl (decide_eq_true he)) ?_)))))
 exact aj (bF rfl rfl (am (bh rfl (ai (aN _ rfl rfl) (bv rfl rfl rfl (ai (aP _ aa rfl rfl rfl rfl) (bL rfl rfl rfl rfl rfl rfl (aj (aD (aY (.inr rfl) rfl (.cellA aa rfl rfl rfl) (Le.outI [((1,8),(22,0)),((5,8),(5,9))] [] (.agg rfl lz) rfl rfl rfl trivial ob tr rfl)))))))))))
set_option maxHeartbeats 1000000 in
theorem zt (M:Mk) (D:Nat→Nat) (nv:Nat) (hK:PG M.cx D nv) (h:Nat) (hh:h < 40) (e0:Nat) (he:M.P.e h=(e0:Int)) (he2:e0 < M.P.c.length) (hD:D e0=0) (hiv:M.iv.length=nv) (hir: ∀ v∈M.iv,Rg v) (h0:0 < nv) (hc:M.P.c.length≤1000000) (hn:M.ans.length≤4611686018427387904) (R:Ms) (hR:R=jy M.cx 500 (eP M.iv e0)):
  Spec Tryz.prog 24 (bk [rz M.P, .v (.int .i64 (h:Int)), .sl M.iv.length (cR M.iv), .agg [.v (.int .i64 (M.nm 0)), .v (.int .i64 (M.nm 1)), .v (.int .i64 (M.nm 2)), .v (.int .i64 (M.nm 3)), .v (.int .i64 (M.nm 4)), .v (.int .i64 (M.nm 5)), .v (.int .i64 (M.nm 6)), .v (.int .i64 (M.nm 7)), .v (.int .i64 (M.nm 8))], .sl M.ans.length (cR M.ans)] []) (aW (.tup [.agg [.ref (1,8) 0 R.vars.length, .sl R.acts.length (qI R.acts), .v (.int .i64 (R.steps:Int)), .v (.bool (!R.fin)), .sl (gK (kf R.cov)).length (cR (gK (kf R.cov)))], .sl R.asked.length (cR R.asked), .v (.bool true)]) [((1,8), .row 3 1 (cR R.vars))]):=by
 have hv:=yj M Ca D nv hK h hh e0 he he2 hD hiv hir h0 hc hn R hR
 refine Spec.ofN Tryz.func24 rfl Tryz.ntmps24 rfl ?_
 refine am (ai (bf (5,0) _ rfl rfl) (ai (bf (8,0) _ rfl rfl) (ai (ax (10,0) aa rfl rfl) (ai (bA _ (rfl:_=AV.v (.slice _ _ _))) (cw rfl (aj (am (ez rfl (ai (ay _ aa rfl (by exact (rfl:_=some [_,_,_]))) ?_)))))))))
 refine ai (bf (17,0) _ rfl rfl) (zm rfl (aj (aq ?_)))
 refine aO (Le.nilB (17,0) 1 (62,0) 3 1 rfl rfl rfl) ?_
 refine an (ai (aP _ aa rfl rfl rfl rfl) (aS rfl (ez rfl (ai (aP _ aa rfl rfl rfl rfl) (ai (ay _ aa rfl (by exact (rfl:_=some [_,_,_,_,_,_,_,_,_,_]))) ?_)))))
 refine bh rfl (ai (mQ _ _ (rfl:_=[_]) (rfl:_=[])) ?_)
 refine ai (cQ aa [((4,9),(17,0)),((5,9),(62,0)),((1,8),(25,2)),((2,8),(25,0)),((5,8),(25,1))] ar (hv) ob tr tr rfl rfl ae ae) ?_
 refine ai (ax (14,0) aa rfl rfl) (bL rfl rfl rfl rfl rfl rfl (aj (aq ?_)))
 refine aO (σ':=aB 35 [(10,_),(13,_),(14,_)] [((10,0),_),((17,0),_),((25,2),_),((25,0),_),((25,1),_),((14,0),_)] [] []) kp ?_
 refine ll 12 [26,27,28,29,30,31,32,33,34,11,12] [(10,0)] ae ae rfl (rfl:_=[_,_,_,_,_,_,_,_,_,_,_,_]) (rfl:_=[]) ?_
 refine bN (_,[]) (fun τ=> aP _ aa rfl rfl rfl rfl) ?_
 refine bO (rfl:_=[_]) ?_
 refine bN (_,[]) (fun τ=> aE _ (rfl:_=AV.ptr _ _)) ?_
 refine bO (rfl:_=[_,_]) ?_
 refine bN (_,[]) (fun τ=> aN _ rfl rfl) ?_
 refine bO (rfl:_=[_,_,_]) ?_
 refine bN (_,[]) (fun τ=> aI _ aa rfl rfl rfl) ?_
 refine bO (rfl:_=[_,_,_,_]) ?_
 refine bN (_,[]) (fun τ=> aL _ aa rfl rfl (rfl:_=some (AV.ref _ _ _))) ?_
 refine bO (rfl:_=[_,_,_,_,_]) ?_
 refine bN (_,[]) (fun τ=> aE _ (rfl:_=AV.ptr _ _)) ?_
 refine bO (rfl:_=[_,_,_,_,_,_]) ?_
 refine bN (_,[]) (fun τ=> aN _ rfl rfl) ?_
 refine bO (rfl:_=[_,_,_,_,_,_,_]) ?_
 refine bN (_,[]) (fun τ=> aI _ aa rfl rfl rfl) ?_
 refine bO (rfl:_=[_,_,_,_,_,_,_,_]) ?_
 refine bN (_,[]) (fun τ=> aL _ aa rfl rfl (rfl:_=some (AV.v (.bool _)))) ?_
 refine bO (rfl:_=[_,_,_,_,_,_,_,_,_]) ?_
 refine bN (_,[((10,0),_)]) (fun τ=> ip _ _ aa rfl rfl rfl rfl (Nat.le_of_ble_eq_true rfl) rfl) ?_
 refine bO (rfl:_=[_,_,_,_,_,_,_,_,_,_]) ?_
 refine bN (_,[]) (fun τ=> bA _ (rfl:_=AV.ref _ _ _)) ?_
 refine bO (rfl:_=[_,_,_,_,_,_,_,_,_,_,_]) ?_
 refine bN (_,[]) (fun τ=> bA _ (rfl:_=AV.v (.bool _))) ?_
 refine bO (rfl:_=[_,_,_,_,_,_,_,_,_,_,_,_]) ?_
 refine jP ⟨⟨rfl,by kernel_rfl,by kernel_rfl⟩,?_⟩
 exact aj (aD (uJ (.inr rfl) rfl (.cellA aa rfl rfl rfl) (.tmp (rfl:_=AV.ref _ _ _)) (.tmp (rfl:_=AV.v _)) (Le.out [((1,8),(25,2))] [(25,0),(25,1)] (.tup rfl (aC (.agg rfl (aC (cX rfl rfl) (aC (gQ rfl rfl (gN _).symm rfl) lz))) (aC (gQ rfl rfl (by simp) rfl) lz))) rfl rfl rfl tr ob)))
set_option maxHeartbeats 1000000 in
theorem ym (M:Mk) (h:Nat) (hh:h < 40) (he:M.P.e h < 0) (h0:0 < M.iv.length) (h1:M.iv.length≤1000):
  Spec Tryz.prog 24 (bk [rz M.P, .v (.int .i64 (h:Int)), .sl M.iv.length (cR M.iv), .agg [.v (.int .i64 (M.nm 0)), .v (.int .i64 (M.nm 1)), .v (.int .i64 (M.nm 2)), .v (.int .i64 (M.nm 3)), .v (.int .i64 (M.nm 4)), .v (.int .i64 (M.nm 5)), .v (.int .i64 (M.nm 6)), .v (.int .i64 (M.nm 7)), .v (.int .i64 (M.nm 8))], .sl M.ans.length (cR M.ans)] []) (aW (.tup [.agg [.ref (1,8) 0 M.iv.length, .sl 0 [], .v (.int .i64 0), .v (.bool false), .sl 0 []], .sl 0 [], .v (.bool true)]) [((1,8), .row 3 1 (cR M.iv))]):=by
 have hv:=vX M h hh he h0 h1
 refine Spec.ofN Tryz.func24 rfl Tryz.ntmps24 rfl ?_
 refine am (ai (bf (5,0) _ rfl rfl) (ai (bf (8,0) _ rfl rfl) (ai (ax (10,0) aa rfl rfl) (ai (bA _ (rfl:_=AV.v (.slice _ _ _))) (cw rfl (aj (am (ez rfl (ai (ay _ aa rfl (by exact (rfl:_=some [_,_,_]))) ?_)))))))))
 refine ai (bf (17,0) _ rfl rfl) (zm rfl (aj (aq ?_)))
 refine aO (Le.nilB (17,0) 1 (62,0) 3 1 rfl rfl rfl) ?_
 refine an (ai (aP _ aa rfl rfl rfl rfl) (aS rfl (ez rfl (ai (aP _ aa rfl rfl rfl rfl) (ai (ay _ aa rfl (by exact (rfl:_=some [_,_,_,_,_,_,_,_,_,_]))) ?_)))))
 refine bh rfl (ai (mQ _ _ (rfl:_=[_]) (rfl:_=[])) ?_)
 refine ai (cQ aa [((4,9),(17,0)),((5,9),(62,0)),((1,8),(25,2)),((5,8),(25,1))] ar (hv) ob tr tr rfl rfl ae ae) ?_
 refine ai (ax (14,0) aa rfl rfl) (bL rfl rfl rfl rfl rfl rfl (aj (aq ?_)))
 refine aO (σ':=aB 35 [(10,_),(13,_),(14,_)] [((10,0),_),((17,0),_),((25,2),_),((25,1),_),((14,0),_)] [] []) kp ?_
 refine ll 12 [26,27,28,29,30,31,32,33,34,11,12] [(10,0)] ae ae rfl (rfl:_=[_,_,_,_,_,_,_,_,_,_,_,_]) (rfl:_=[]) ?_
 refine bN (_,[]) (fun τ=> aP _ aa rfl rfl rfl rfl) ?_
 refine bO (rfl:_=[_]) ?_
 refine bN (_,[]) (fun τ=> aE _ (rfl:_=AV.ptr _ _)) ?_
 refine bO (rfl:_=[_,_]) ?_
 refine bN (_,[]) (fun τ=> aN _ rfl rfl) ?_
 refine bO (rfl:_=[_,_,_]) ?_
 refine bN (_,[]) (fun τ=> aI _ aa rfl rfl rfl) ?_
 refine bO (rfl:_=[_,_,_,_]) ?_
 refine bN (_,[]) (fun τ=> aL _ aa rfl rfl (rfl:_=some (AV.ref _ _ _))) ?_
 refine bO (rfl:_=[_,_,_,_,_]) ?_
 refine bN (_,[]) (fun τ=> aE _ (rfl:_=AV.ptr _ _)) ?_
 refine bO (rfl:_=[_,_,_,_,_,_]) ?_
 refine bN (_,[]) (fun τ=> aN _ rfl rfl) ?_
 refine bO (rfl:_=[_,_,_,_,_,_,_]) ?_
 refine bN (_,[]) (fun τ=> aI _ aa rfl rfl rfl) ?_
 refine bO (rfl:_=[_,_,_,_,_,_,_,_]) ?_
 refine bN (_,[]) (fun τ=> aL _ aa rfl rfl (rfl:_=some (AV.v (.bool _)))) ?_
 refine bO (rfl:_=[_,_,_,_,_,_,_,_,_]) ?_
 refine bN (_,[((10,0),_)]) (fun τ=> ip _ _ aa rfl rfl rfl rfl (Nat.le_of_ble_eq_true rfl) rfl) ?_
 refine bO (rfl:_=[_,_,_,_,_,_,_,_,_,_]) ?_
 refine bN (_,[]) (fun τ=> bA _ (rfl:_=AV.ref _ _ _)) ?_
 refine bO (rfl:_=[_,_,_,_,_,_,_,_,_,_,_]) ?_
 refine bN (_,[]) (fun τ=> bA _ (rfl:_=AV.v (.bool _))) ?_
 refine bO (rfl:_=[_,_,_,_,_,_,_,_,_,_,_,_]) ?_
 refine jP ⟨⟨rfl,by kernel_rfl,by kernel_rfl⟩,?_⟩
 exact aj (aD (uJ (.inr rfl) rfl (.cellA aa rfl rfl rfl) (.tmp (rfl:_=AV.ref _ _ _)) (.tmp (rfl:_=AV.v _)) (Le.out [((1,8),(25,2))] [(25,1)] (.tup rfl (aC (.agg rfl lz) (aC (gQ rfl rfl rfl rfl) lz))) rfl rfl rfl tr ob)))
theorem yN {M:Mk} {D:Nat→Nat} {nv:Nat} (K:vi M D nv) (hn:M.ans.length≤4611686018427387904) (h:Nat) (hh:h < 40): ∃ (vs:List Int) (acs:List Ac) (n:Int) (sp:Bool) (cv ak:List Int),vs.length≤1000000∧
  Spec Tryz.prog 24 (bk (Cf M h) []) (aW (.tup [.agg [.ref (1,8) 0 vs.length, .sl acs.length (qI acs), .v (.int .i64 n), .v (.bool sp), .sl cv.length (cR cv)], .sl ak.length (cR ak), .v (.bool true)]) [((1,8), .row 3 1 (cR vs))]):=by
 have hnv:=K.pg.nv
 have h0:0 < M.iv.length:=by rw [K.iv];exact K.nv
 have h1:M.iv.length≤16:=by rw [K.iv];exact hnv
 rcases K.ent h hh with he | ⟨e0,he,he2,hD⟩
 ·exact ⟨M.iv,[],0,false,[],[],by omega,ym M h hh he h0 ab⟩
 ·obtain ⟨R,hR⟩: ∃ R,R=jy M.cx 500 (eP M.iv e0):=⟨_,rfl⟩
  have hat:=Cu K.pg (oC (e:=e0) K.iv K.ir he2 hD) 500
  rw [← hR] at hat
  have h4:=hat.iv.vl
  exact ⟨R.vars,R.acts,R.steps, !R.fin,gK (kf R.cov),R.asked,by omega,zt M D nv K.pg h hh e0 he he2 hD K.iv K.ir K.nv K.c hn R hR⟩
set_option maxHeartbeats 1000000 in
theorem tu (p v:List Int) (hp:FA p) (hv:FA v):
  Spec Tryz.prog 9 (bk [.sl p.length (cR p), .sl v.length (cR v)] []) (aW (.v (.bool true)) []):=by
 obtain ⟨M,D,nv,K,hans,h1,h2,h3,h4,hd0,hnv⟩:=BK p v [] hp hv ⟨Nat.zero_le _,fun x hx=> by cases hx⟩
 clear h2
 have hR:=fun h hh=> yN (M:=Nu M []) (Dw K []) (Nat.zero_le _) h hh
 have hR2: ∀ h:Nat,h < 40→ ∃ (vs:List Int) (acs:List Ac) (n:Int) (sp:Bool) (cv ak:List Int),vs.length≤1000000∧
  Spec Tryz.prog 24 (bk [rz M.P, .v (.int .i64 (h:Int)), .sl M.iv.length (cR M.iv),Ns M, .sl 0 []] []) (aW (.tup [.agg [.ref (1,8) 0 vs.length, .sl acs.length (qI acs), .v (.int .i64 n), .v (.bool sp), .sl cv.length (cR cv)], .sl ak.length (cR ak), .v (.bool true)]) [((1,8), .row 3 1 (cR vs))]):=hR
 clear hR
 refine Spec.ofN Tryz.func9 rfl Tryz.ntmps9 rfl ?_
 refine am (cw rfl (aj (am (ez rfl (ai (aM aa al (h1) rfl rfl) ?_)))))
 refine ai (ax (5,0) aa rfl rfl) (bL rfl rfl rfl rfl rfl rfl (aj (am (ai (aP _ aa rfl rfl rfl rfl) (ez rfl (ai (aM aa al (h3) rfl rfl) ?_))))))
 refine kB rfl (aj (am (ai (xo _ aa rfl) (ez rfl (ai (CH _ _ aa rfl (.sl (by rw [ba,Nat.mul_one])) ab) ?_)))))
 refine kB rfl (aj (aG fun K5 hK5=> ?_))
 refine am (aZ rfl (aj (au ?_)))
 refine bB (α:=Nat) (fun k=> k≤40) 51 [(1,_),(5,_),(6,_),(7,_)] [((5,0),_)] (fun k=> [(8, .v (.int .i64 (k:Int)))]) (fun k=> []) [] [] (fun k=> 40 - k) 0 ?_ (by
  refine Le.mkJ [] [] rfl ?_ ?_ trivial trivial ?_
  ·exact ⟨(iS rfl),(iP rfl),(iS rfl),(iS rfl),(co ag),trivial⟩
  ·exact ⟨(cI rfl rfl rfl),trivial⟩
  ·kernel_rfl) ?_
 ·omega
 intro k hk
 refine aG fun K7 hK7=> ?_
 refine am (aS rfl (ai (bq _ _ rfl rfl rfl) (aj (aV rfl (fun hc22=> ?_) (fun hc22=> ?_)))))
 ·skip
  obtain ⟨vs,acs,n,sp,cv,ak,g1,g2⟩:=hR2 k ab
  refine bz (hK7 _ ?_)
  clear hK7;try clear K7
  refine aq (au (aq (ll 14 [26,27,28,29,30,31,25,32,33,34,9,10,11] [(31,0),(9,0),(9,0)] ae ae rfl (rfl:_=[_,_,_,_,_,_,_,_,_,_,_,_,_,_]) (rfl:_=[]) ?_)))
  refine bN (_,[]) (fun τ=> aP _ aa rfl rfl rfl rfl) ?_
  refine bO (rfl:_=[_]) ?_
  refine bN (_,[]) (fun τ=> aE _ (rfl:_=AV.v (.int _ _))) ?_
  refine bO (rfl:_=[_,_]) ?_
  refine bN (_,[]) (fun τ=> aE _ (rfl:_=AV.sl _ _)) ?_
  refine bO (rfl:_=[_,_,_]) ?_
  refine bN (_,[]) (fun τ=> aE _ (rfl:_=AV.sl _ _)) ?_
  refine bO (rfl:_=[_,_,_,_]) ?_
  refine bN (_,[]) (fun τ=> (aM aa al (h4) rfl rfl)) ?_
  refine bO (rfl:_=[_,_,_,_,_]) ?_
  refine bN (_,[((31,0),_)]) (fun τ=> (cQ aa [((1,8),(31,0))] ar (g2.toI) trivial tr tr rfl rfl ae ae)) ?_
  refine bO (rfl:_=[_,_,_,_,_,_]) ?_
  refine bN (_,[]) (fun τ=> aE _ (rfl:_=AV.tup _)) ?_
  refine bO (rfl:_=[_,_,_,_,_,_,_]) ?_
  refine bN (_,[]) (fun τ=> dh _ rfl (rfl:_=some (AV.agg _))) ?_
  refine bO (rfl:_=[_,_,_,_,_,_,_,_]) ?_
  refine bN (_,[]) (fun τ=> dh _ rfl (rfl:_=some (AV.sl _ _))) ?_
  refine bO (rfl:_=[_,_,_,_,_,_,_,_,_]) ?_
  refine bN (_,[]) (fun τ=> dh _ rfl (rfl:_=some (AV.v (.bool _)))) ?_
  refine bO (rfl:_=[_,_,_,_,_,_,_,_,_,_]) ?_
  refine bN (_,[((9,0),_)]) (fun τ=> ax (9,0) aa rfl rfl) ?_
  refine bO (rfl:_=[_,_,_,_,_,_,_,_,_,_,_]) ?_
  refine bN (_,[((9,0),_)]) (fun τ=> ip _ _ aa rfl rfl rfl rfl (Nat.le_of_ble_eq_true rfl) rfl) ?_
  refine bO (rfl:_=[_,_,_,_,_,_,_,_,_,_,_,_]) ?_
  refine bN (_,[]) (fun τ=> bA _ (rfl:_=AV.sl _ _)) ?_
  refine bO (rfl:_=[_,_,_,_,_,_,_,_,_,_,_,_,_]) ?_
  refine bN (_,[]) (fun τ=> bA _ (rfl:_=AV.v (.bool _))) ?_
  refine bO (rfl:_=[_,_,_,_,_,_,_,_,_,_,_,_,_,_]) ?_
  refine jP ⟨⟨rfl,by kernel_rfl,by kernel_rfl⟩,?_⟩
  refine aj (aG fun K11 hK11=> ?_)
  refine aq ?_
  refine aO (σ':=aB 51 [(1,_),(5,_),(6,_),(7,_),(8,_),(9,_)] [((5,0),_),((31,0),_),((9,0),_)] [] []) kp ?_
  refine an (aZ rfl (aj (au ?_)))
  refine bB (α:=Nat×List Int) (fun z=> z.1≤vs.length∧z.2.length=vs.length) 51 [(1,_),(5,_),(6,_),(7,_),(8,_),(9,_)] [((5,0),_),((9,0),_)] (fun z=> [(12, .v (.int .i64 (z.1:Int)))]) (fun z=> [((31,0), .row 3 1 (cR z.2))]) [] [] (fun z=> vs.length - z.1) (0,vs) ?_ (by
   refine Le.mkJ [] [] rfl ?_ ?_ trivial trivial ?_
   ·exact ⟨(iS rfl),(iP rfl),(iS rfl),(iS rfl),(iV rfl),(iP rfl),(co ag),trivial⟩
   ·exact ⟨(cI rfl rfl rfl),(cI rfl rfl rfl),(fJ rfl rfl rfl ag),trivial⟩
   ·kernel_rfl) ?_
  ·exact ⟨Nat.zero_le _,rfl⟩
  intro z hz
  obtain ⟨j,l⟩:=z
  simp only at hz ⊢
  obtain ⟨hz1,hz2⟩:=hz
  refine aG fun K13 hK13=> ?_
  refine am (aS rfl (bv rfl rfl rfl (ai (aL _ aa rfl rfl (rfl:_=some (AV.ref _ _ _))) (ai (dv _ aa rfl rfl) (ai (bq _ _ rfl rfl rfl) (aj (aV rfl (fun hc39=> ?_) (fun hc39=> ?_))))))))
  ·skip
   refine bz (hK13 _ ?_)
   clear hK13;try clear K13
   refine aq (au (an (bv rfl rfl rfl (ai (aL _ aa rfl rfl (rfl:_=some (AV.ref _ _ _))) (aS rfl (ai (gi _ _ aa rfl rfl rfl _ rfl ab (by exact (Nat.zero_add _).trans (Nat.mul_one _))) ?_))))))
   refine ai (mq _ _ aa rfl rfl rfl rfl rfl (by rw [ba];simp only [List.length_cons,List.length_nil];omega) (kr l j 1234567 ab)) ?_
   refine fP (an (aS rfl (ai (be _ _ rfl rfl (br ab)) ?_)))
   refine aZ rfl (az (⟨(j+1,l.set j 1234567),?_,?_,?_⟩))
   ·exact ⟨by omega,by simp [hz2]⟩
   ·skip
    refine Le.mkJ [] [] rfl ?_ ?_ trivial trivial ?_
    ·exact ⟨(iS rfl),(iP rfl),(iS rfl),(iS rfl),(iV rfl),(iP rfl),(co ag),trivial⟩
    ·exact ⟨(cI rfl rfl rfl),(cI rfl rfl rfl),(fJ rfl rfl rfl ag),trivial⟩
    ·kernel_rfl
   ·simp only;omega
  ·skip
   refine bK (id (hK11 _ ?_))
   clear hK11;try clear K11
   refine am (ez rfl (ez rfl (ai (aM aa al (oK _ ab) rfl rfl) ?_)))
   refine ai (cT (r:=false) _ rfl rfl) (aj (aR rfl rfl (cg (an (aS rfl (ai (be _ _ rfl rfl (br ab)) ?_))))))
   refine aZ rfl (az (⟨k+1,?_,?_,?_⟩))
   ·omega
   ·skip
    refine Le.mkJ [] [] rfl ?_ ?_ trivial trivial ?_
    ·exact ⟨(iS rfl),(iP rfl),(iS rfl),(iS rfl),(co ag),trivial⟩
    ·exact ⟨(cI rfl rfl rfl),trivial⟩
    ·kernel_rfl
   ·omega
 ·skip
  refine bK (id (hK5 _ ?_))
  clear hK5;try clear K5
  refine am (ai (aM aa (by repeat' (exact dE)) (tc) rfl rfl) ?_)
  exact cw rfl (aj (aD (aY (.inr rfl) rfl (.tmp (rfl:_=AV.v _)) (Le.out [] [] .v rfl rfl rfl trivial trivial))))

theorem vr (n0:Nat) (p:List Int) (h0:p.length=n0) (g0:n0≤4611686018427387904) (r0:Rng p) (n1:Nat) (v:List Int) (h1:v.length=n1) (g1:n1≤4611686018427387904) (r1:Rng v):
    Spec Tryz.prog 9 (bk [.sl n0 (cR p), .sl n1 (cR v)] []) (aW (.v (.bool true)) []):=by
  subst h0;subst h1
  exact tu p v ⟨g0,r0⟩ ⟨g1,r1⟩
end Go.Proofs.YtmjnackchaahbaaGreat
